/- Contracts of the buffer of translations: what its functions compute, over its lines. Conditions: none. -/
import Derived.Test.YtbohpchmofkllaaBits
import Derived.Test.YtbohpchmofkllaaTab
import Derived.Test.YtbohpchmofkllaaVh
set_option linter.unusedVariables false
set_option linter.unusedSimpArgs false
set_option maxRecDepth 10000
set_option maxHeartbeats 4000000
namespace Go.Proofs.Ytbohpchmofkllaa
open Vc
/-- A line. -/
structure Ln where
  v : Int
  a : Int
  p : Int
  f : Int
  r : Int
deriving DecidableEq
def lnV (l : Ln) : List Value := [.int .i64 l.v, .int .i64 l.a, .int .i64 l.p, .int .i64 l.f, .int .i64 l.r]
theorem lnV_len (l : Ln) : (lnV l).length = 5 := rfl
theorem lnV_one (l : Ln) : (lnV l).all (·.oneCell') = true := rfl
def ln0 : Ln := ⟨0, 0, 0, 0, 0⟩
def lnRight (l : Ln) : Prop := (1 ≤ l.v ∧ l.v ≤ 15) ∧ (0 ≤ l.a ∧ l.a ≤ 15) ∧ (0 ≤ l.p ∧ l.p ≤ 1023) ∧ (0 ≤ l.f ∧ l.f ≤ 1023) ∧ (0 ≤ l.r ∧ l.r ≤ 7)
instance (l : Ln) : Decidable (lnRight l) := by unfold lnRight; infer_instance
abbrev lnA (l : Ln) : Value := .agg (lnV l).toArray
theorem ae63 : aeOk Try.prog 71 = true := by kernel_rfl

theorem within_con (n a b : Int) (w : World) : Con Try.prog 53 [.int .i64 n, .int .i64 a, .int .i64 b] w [] (fun x L' => x = .bool (decide (a ≤ n ∧ n ≤ b)) ∧ L' = []) := by
  refine Con.of_vc tabOk 15 [.tmp 6] Try.func53 rfl Try.ntmps53 Try.results53 rfl (Own.nil' w) ?_
  repeat' ((conv => whnf); first
    | (show _ ∧ _; first | (obtain ⟨rfl, rfl⟩ := hx; refine ⟨rfl, ?_⟩) | (obtain ⟨b, rfl, rfl⟩ := hx; refine ⟨rfl, ?_⟩) | (obtain ⟨b, c, rfl, rfl⟩ := hx; refine ⟨rfl, ?_⟩))
    | (show gsplit _ _ _; first | refine gsplit.tt ?_ | refine gsplit.ff ?_ | refine gsplit.dpos (by omega) ?_ | refine gsplit.dneg (by omega) ?_ | refine gsplit.npos (by omega) ?_ | refine gsplit.nneg (by omega) ?_ | refine gsplit.dec (fun hc => ?_) (fun hc => ?_) | refine gsplit.ndec (fun hc => ?_) (fun hc => ?_) | refine gsplit.eq (fun hc => ?_) (fun hc => ?_) | refine gsplit.neq (fun hc => ?_) (fun hc => ?_))
    | (show YQ _ _ _ _ _ _; first | refine YQ.remN (by omega) ?_ | refine YQ.quoN (by omega) ?_ | refine YQ.len tabOk rfl ?_ | refine YQ.idx tabOk rfl (by omega) ?_ | refine YQ.idxA tabOk rfl (by omega) ?_ | refine YQ.sliceA tabOk rfl (by omega) (by omega) ?_ | refine YQ.sliceAll tabOk rfl ?_ | refine YQ.load1 tabOk rfl 0 rfl rfl ?_ | refine YQ.load1 tabOk rfl 1 rfl rfl ?_ | refine YQ.load1 tabOk rfl 2 rfl rfl ?_ | refine YQ.load1 tabOk rfl 3 rfl rfl ?_ | refine YQ.load1 tabOk rfl 4 rfl rfl ?_ | refine YQ.load1 tabOk rfl 5 rfl rfl ?_ | refine YQ.loadF tabOk rfl 0 rfl rfl ?_ | refine YQ.loadF tabOk rfl 1 rfl rfl ?_ | refine YQ.loadF tabOk rfl 2 rfl rfl ?_ | refine YQ.loadF tabOk rfl 3 rfl rfl ?_ | refine YQ.loadF tabOk rfl 4 rfl rfl ?_ | refine YQ.loadF tabOk rfl 5 rfl rfl ?_ | refine YQ.loadA tabOk rfl 0 rfl rfl rfl ?_ | refine YQ.loadA tabOk rfl 1 rfl rfl rfl ?_ | refine YQ.loadA tabOk rfl 2 rfl rfl rfl ?_ | refine YQ.loadA tabOk rfl 3 rfl rfl rfl ?_ | refine YQ.loadA tabOk rfl 4 rfl rfl rfl ?_ | refine YQ.build tabOk rfl rfl rfl ?_ | refine YQ.eqF tabOk rfl rfl rfl ?_ | refine YQ.neF tabOk rfl rfl rfl ?_)
    | (show YU _ _ _ _ _ _ _ _; first | refine YU.store1L tabOk rfl rfl 0 rfl rfl ?_ | refine YU.store1L tabOk rfl rfl 1 rfl rfl ?_ | refine YU.store1L tabOk rfl rfl 2 rfl rfl ?_ | refine YU.store1L tabOk rfl rfl 3 rfl rfl ?_ | refine YU.store1L tabOk rfl rfl 4 rfl rfl ?_ | refine YU.storeF tabOk rfl rfl rfl 0 rfl rfl ?_ | refine YU.storeF tabOk rfl rfl rfl 1 rfl rfl ?_ | refine YU.storeF tabOk rfl rfl rfl 2 rfl rfl ?_ | refine YU.storeF tabOk rfl rfl rfl 3 rfl rfl ?_ | refine YU.storeF tabOk rfl rfl rfl 4 rfl rfl ?_ | refine YU.storeF tabOk rfl rfl rfl 5 rfl rfl ?_ | refine YU.storeAL tabOk rfl rfl rfl 0 rfl rfl ?_ | refine YU.storeAL tabOk rfl rfl rfl 1 rfl rfl ?_ | refine YU.storeAL tabOk rfl rfl rfl 2 rfl rfl ?_ | refine YU.storeAL tabOk rfl rfl rfl 3 rfl rfl ?_ | refine YU.storeAL tabOk rfl rfl rfl 4 rfl rfl ?_)
    | (show Wr _ _ _; first | refine Wr.i64 (by omega) ?_ | refine Wr.u8 (by omega) ?_ | refine Wr.u16 (by omega) ?_ | refine Wr.u32 (by omega) ?_)
    | (show BIf _ _ _; first | refine BIf.pos rfl ?_ | refine BIf.neg rfl ?_)
    | (show Dr _ _ _ _ _ _ _ _ _; first | refine Dr.all (by kernel_rfl) ?_)
    | (show Vc.Fin _ _ _; first | refine Fin.take 0 (And.intro ?_ rfl))
    | intro b)
  all_goals
    show Value.bool _ = Value.bool _
    congr 1
    rw [Bool.eq_iff_iff]
    simp
    try omega
theorem lright_con (l : Ln) (w : World) : Con Try.prog 65 [lnA l] w [] (fun x L' => x = .bool (decide (lnRight l)) ∧ L' = []) := by
  refine Con.of_vc tabOk 26 [.tmp 2] Try.func65 rfl Try.ntmps65 Try.results65 rfl (Own.nil' w) ?_
  repeat' ((conv => whnf); first
    | (show _ ∧ _; first | (obtain ⟨rfl, rfl⟩ := hx; refine ⟨rfl, ?_⟩) | (obtain ⟨b, rfl, rfl⟩ := hx; refine ⟨rfl, ?_⟩) | (obtain ⟨b, c, rfl, rfl⟩ := hx; refine ⟨rfl, ?_⟩) | (obtain ⟨rfl, rfl⟩ := hx; refine ⟨rfl, ?_⟩) | (obtain ⟨rfl, rfl⟩ := hx; refine ⟨rfl, ?_⟩) | (obtain ⟨b, rfl, rfl⟩ := hx; refine ⟨rfl, ?_⟩) | (obtain ⟨b, c, rfl, rfl⟩ := hx; refine ⟨rfl, ?_⟩))
    | (show gsplit _ _ _; first | refine gsplit.tt ?_ | refine gsplit.ff ?_ | refine gsplit.dpos (by omega) ?_ | refine gsplit.dneg (by omega) ?_ | refine gsplit.npos (by omega) ?_ | refine gsplit.nneg (by omega) ?_ | refine gsplit.dec (fun hc => ?_) (fun hc => ?_) | refine gsplit.ndec (fun hc => ?_) (fun hc => ?_) | refine gsplit.eq (fun hc => ?_) (fun hc => ?_) | refine gsplit.neq (fun hc => ?_) (fun hc => ?_))
    | (show YQ _ _ _ _ _ _; first | refine YQ.remN (by omega) ?_ | refine YQ.quoN (by omega) ?_ | refine YQ.len tabOk rfl ?_ | refine YQ.idx tabOk rfl (by omega) ?_ | refine YQ.idxA tabOk rfl (by omega) ?_ | refine YQ.sliceA tabOk rfl (by omega) (by omega) ?_ | refine YQ.sliceAll tabOk rfl ?_ | refine YQ.load1 tabOk rfl 0 rfl rfl ?_ | refine YQ.load1 tabOk rfl 1 rfl rfl ?_ | refine YQ.load1 tabOk rfl 2 rfl rfl ?_ | refine YQ.load1 tabOk rfl 3 rfl rfl ?_ | refine YQ.load1 tabOk rfl 4 rfl rfl ?_ | refine YQ.load1 tabOk rfl 5 rfl rfl ?_ | refine YQ.loadF tabOk rfl 0 rfl rfl ?_ | refine YQ.loadF tabOk rfl 1 rfl rfl ?_ | refine YQ.loadF tabOk rfl 2 rfl rfl ?_ | refine YQ.loadF tabOk rfl 3 rfl rfl ?_ | refine YQ.loadF tabOk rfl 4 rfl rfl ?_ | refine YQ.loadF tabOk rfl 5 rfl rfl ?_ | refine YQ.loadA tabOk rfl 0 rfl rfl rfl ?_ | refine YQ.loadA tabOk rfl 1 rfl rfl rfl ?_ | refine YQ.loadA tabOk rfl 2 rfl rfl rfl ?_ | refine YQ.loadA tabOk rfl 3 rfl rfl rfl ?_ | refine YQ.loadA tabOk rfl 4 rfl rfl rfl ?_ | refine YQ.build tabOk rfl rfl rfl ?_ | refine YQ.eqF tabOk rfl rfl rfl ?_ | refine YQ.neF tabOk rfl rfl rfl ?_)
    | (show YC _ _ _ _ _ _ _; first | refine YC.con [] [] rfl rfl (fun w _ _ => within_con _ _ _ w) (fun x L' hx => ?_))
    | (show YU _ _ _ _ _ _ _ _; first | refine YU.store1L tabOk rfl rfl 0 rfl rfl ?_ | refine YU.store1L tabOk rfl rfl 1 rfl rfl ?_ | refine YU.store1L tabOk rfl rfl 2 rfl rfl ?_ | refine YU.store1L tabOk rfl rfl 3 rfl rfl ?_ | refine YU.store1L tabOk rfl rfl 4 rfl rfl ?_ | refine YU.storeF tabOk rfl rfl rfl 0 rfl rfl ?_ | refine YU.storeF tabOk rfl rfl rfl 1 rfl rfl ?_ | refine YU.storeF tabOk rfl rfl rfl 2 rfl rfl ?_ | refine YU.storeF tabOk rfl rfl rfl 3 rfl rfl ?_ | refine YU.storeF tabOk rfl rfl rfl 4 rfl rfl ?_ | refine YU.storeF tabOk rfl rfl rfl 5 rfl rfl ?_ | refine YU.storeAL tabOk rfl rfl rfl 0 rfl rfl ?_ | refine YU.storeAL tabOk rfl rfl rfl 1 rfl rfl ?_ | refine YU.storeAL tabOk rfl rfl rfl 2 rfl rfl ?_ | refine YU.storeAL tabOk rfl rfl rfl 3 rfl rfl ?_ | refine YU.storeAL tabOk rfl rfl rfl 4 rfl rfl ?_)
    | (show Wr _ _ _; first | refine Wr.i64 (by omega) ?_ | refine Wr.u8 (by omega) ?_ | refine Wr.u16 (by omega) ?_ | refine Wr.u32 (by omega) ?_)
    | (show BIf _ _ _; first | refine BIf.pos rfl ?_ | refine BIf.neg rfl ?_)
    | (show Dr _ _ _ _ _ _ _ _ _; first | refine Dr.all (by kernel_rfl) ?_)
    | (show Vc.Fin _ _ _; first | refine Fin.take 0 (And.intro ?_ rfl))
    | intro b)
  all_goals
    show Value.bool _ = Value.bool _
    congr 1
    rw [Bool.eq_iff_iff]
    simp only [decide_eq_true_eq, Bool.false_eq_true]
    unfold lnRight
    first | omega | (constructor <;> intro h <;> first | exact h.elim | omega)
theorem lright_ref (l : Ln) (w : World) : Con Try.prog 70 [lnA l] w [] (fun x L' => x = .bool (decide (lnRight l)) ∧ L' = []) := by
  refine Con.of_vc tabOk 51 [.tmp 2] Try.func70 rfl Try.ntmps70 Try.results70 rfl (Own.nil' w) ?_
  repeat' ((conv => whnf); first
    | (show _ ∧ _; first | (obtain ⟨rfl, rfl⟩ := hx; refine ⟨rfl, ?_⟩) | (obtain ⟨b, rfl, rfl⟩ := hx; refine ⟨rfl, ?_⟩) | (obtain ⟨b, c, rfl, rfl⟩ := hx; refine ⟨rfl, ?_⟩))
    | (show gsplit _ _ _; first | refine gsplit.tt ?_ | refine gsplit.ff ?_ | refine gsplit.dpos (by omega) ?_ | refine gsplit.dneg (by omega) ?_ | refine gsplit.npos (by omega) ?_ | refine gsplit.nneg (by omega) ?_ | refine gsplit.dec (fun hc => ?_) (fun hc => ?_) | refine gsplit.ndec (fun hc => ?_) (fun hc => ?_) | refine gsplit.eq (fun hc => ?_) (fun hc => ?_) | refine gsplit.neq (fun hc => ?_) (fun hc => ?_))
    | (show YQ _ _ _ _ _ _; first | refine YQ.remN (by omega) ?_ | refine YQ.quoN (by omega) ?_ | refine YQ.len tabOk rfl ?_ | refine YQ.idx tabOk rfl (by omega) ?_ | refine YQ.idxA tabOk rfl (by omega) ?_ | refine YQ.sliceA tabOk rfl (by omega) (by omega) ?_ | refine YQ.sliceAll tabOk rfl ?_ | refine YQ.load1 tabOk rfl 0 rfl rfl ?_ | refine YQ.load1 tabOk rfl 1 rfl rfl ?_ | refine YQ.load1 tabOk rfl 2 rfl rfl ?_ | refine YQ.load1 tabOk rfl 3 rfl rfl ?_ | refine YQ.load1 tabOk rfl 4 rfl rfl ?_ | refine YQ.load1 tabOk rfl 5 rfl rfl ?_ | refine YQ.loadF tabOk rfl 0 rfl rfl ?_ | refine YQ.loadF tabOk rfl 1 rfl rfl ?_ | refine YQ.loadF tabOk rfl 2 rfl rfl ?_ | refine YQ.loadF tabOk rfl 3 rfl rfl ?_ | refine YQ.loadF tabOk rfl 4 rfl rfl ?_ | refine YQ.loadF tabOk rfl 5 rfl rfl ?_ | refine YQ.loadA tabOk rfl 0 rfl rfl rfl ?_ | refine YQ.loadA tabOk rfl 1 rfl rfl rfl ?_ | refine YQ.loadA tabOk rfl 2 rfl rfl rfl ?_ | refine YQ.loadA tabOk rfl 3 rfl rfl rfl ?_ | refine YQ.loadA tabOk rfl 4 rfl rfl rfl ?_ | refine YQ.build tabOk rfl rfl rfl ?_ | refine YQ.eqF tabOk rfl rfl rfl ?_ | refine YQ.neF tabOk rfl rfl rfl ?_)
    | (show YU _ _ _ _ _ _ _ _; first | refine YU.store1L tabOk rfl rfl 0 rfl rfl ?_ | refine YU.store1L tabOk rfl rfl 1 rfl rfl ?_ | refine YU.store1L tabOk rfl rfl 2 rfl rfl ?_ | refine YU.store1L tabOk rfl rfl 3 rfl rfl ?_ | refine YU.store1L tabOk rfl rfl 4 rfl rfl ?_ | refine YU.storeF tabOk rfl rfl rfl 0 rfl rfl ?_ | refine YU.storeF tabOk rfl rfl rfl 1 rfl rfl ?_ | refine YU.storeF tabOk rfl rfl rfl 2 rfl rfl ?_ | refine YU.storeF tabOk rfl rfl rfl 3 rfl rfl ?_ | refine YU.storeF tabOk rfl rfl rfl 4 rfl rfl ?_ | refine YU.storeF tabOk rfl rfl rfl 5 rfl rfl ?_ | refine YU.storeAL tabOk rfl rfl rfl 0 rfl rfl ?_ | refine YU.storeAL tabOk rfl rfl rfl 1 rfl rfl ?_ | refine YU.storeAL tabOk rfl rfl rfl 2 rfl rfl ?_ | refine YU.storeAL tabOk rfl rfl rfl 3 rfl rfl ?_ | refine YU.storeAL tabOk rfl rfl rfl 4 rfl rfl ?_)
    | (show Wr _ _ _; first | refine Wr.i64 (by omega) ?_ | refine Wr.u8 (by omega) ?_ | refine Wr.u16 (by omega) ?_ | refine Wr.u32 (by omega) ?_)
    | (show BIf _ _ _; first | refine BIf.pos rfl ?_ | refine BIf.neg rfl ?_)
    | (show Dr _ _ _ _ _ _ _ _ _; first | refine Dr.all (by kernel_rfl) ?_)
    | (show Vc.Fin _ _ _; first | refine Fin.take 0 (And.intro ?_ rfl))
    | intro b)
  all_goals
    show Value.bool _ = Value.bool _
    congr 1
    rw [Bool.eq_iff_iff]
    simp only [decide_eq_true_eq, Bool.false_eq_true]
    unfold lnRight
    first | omega | (constructor <;> intro h <;> first | exact h.elim | omega)
/-- The same page of the same space. -/
def lsame (l x : Ln) : Bool := decide (x.v = l.v ∧ x.a = l.a ∧ x.p = l.p)
theorem same_con (x l : Ln) (q : Nat) (w : World) (hw : Own w [⟨q, 70, lnV l⟩]) : Con Try.prog 67 [lnA x, .pointer (some ⟨q, 0, none⟩)] w [⟨q, 70, lnV l⟩]
    (fun v L' => v = .bool (lsame l x) ∧ L' = [⟨q, 70, lnV l⟩]) := by
  refine Con.of_vc tabOk 23 [.tmp 3] Try.func67 rfl Try.ntmps67 Try.results67 rfl hw ?_
  repeat' ((conv => whnf); first
    | (show _ ∧ _; first | (obtain ⟨rfl, rfl⟩ := hx; refine ⟨rfl, ?_⟩) | (obtain ⟨b, rfl, rfl⟩ := hx; refine ⟨rfl, ?_⟩) | (obtain ⟨b, c, rfl, rfl⟩ := hx; refine ⟨rfl, ?_⟩))
    | (show gsplit _ _ _; first | refine gsplit.tt ?_ | refine gsplit.ff ?_ | refine gsplit.dpos (by omega) ?_ | refine gsplit.dneg (by omega) ?_ | refine gsplit.npos (by omega) ?_ | refine gsplit.nneg (by omega) ?_ | refine gsplit.dec (fun hc => ?_) (fun hc => ?_) | refine gsplit.ndec (fun hc => ?_) (fun hc => ?_) | refine gsplit.eq (fun hc => ?_) (fun hc => ?_) | refine gsplit.neq (fun hc => ?_) (fun hc => ?_))
    | (show YQ _ _ _ _ _ _; first | refine YQ.remN (by omega) ?_ | refine YQ.quoN (by omega) ?_ | refine YQ.len tabOk rfl ?_ | refine YQ.idx tabOk rfl (by omega) ?_ | refine YQ.idxA tabOk rfl (by omega) ?_ | refine YQ.sliceA tabOk rfl (by omega) (by omega) ?_ | refine YQ.sliceAll tabOk rfl ?_ | refine YQ.load1 tabOk rfl 0 rfl rfl ?_ | refine YQ.load1 tabOk rfl 1 rfl rfl ?_ | refine YQ.load1 tabOk rfl 2 rfl rfl ?_ | refine YQ.load1 tabOk rfl 3 rfl rfl ?_ | refine YQ.load1 tabOk rfl 4 rfl rfl ?_ | refine YQ.load1 tabOk rfl 5 rfl rfl ?_ | refine YQ.loadF tabOk rfl 0 rfl rfl ?_ | refine YQ.loadF tabOk rfl 1 rfl rfl ?_ | refine YQ.loadF tabOk rfl 2 rfl rfl ?_ | refine YQ.loadF tabOk rfl 3 rfl rfl ?_ | refine YQ.loadF tabOk rfl 4 rfl rfl ?_ | refine YQ.loadF tabOk rfl 5 rfl rfl ?_ | refine YQ.loadA tabOk rfl 0 rfl rfl rfl ?_ | refine YQ.loadA tabOk rfl 1 rfl rfl rfl ?_ | refine YQ.loadA tabOk rfl 2 rfl rfl rfl ?_ | refine YQ.loadA tabOk rfl 3 rfl rfl rfl ?_ | refine YQ.loadA tabOk rfl 4 rfl rfl rfl ?_ | refine YQ.build tabOk rfl rfl rfl ?_ | refine YQ.eqF tabOk rfl rfl rfl ?_ | refine YQ.neF tabOk rfl rfl rfl ?_)
    | (show YU _ _ _ _ _ _ _ _; first | refine YU.store1L tabOk rfl rfl 0 rfl rfl ?_ | refine YU.store1L tabOk rfl rfl 1 rfl rfl ?_ | refine YU.store1L tabOk rfl rfl 2 rfl rfl ?_ | refine YU.store1L tabOk rfl rfl 3 rfl rfl ?_ | refine YU.store1L tabOk rfl rfl 4 rfl rfl ?_ | refine YU.storeF tabOk rfl rfl rfl 0 rfl rfl ?_ | refine YU.storeF tabOk rfl rfl rfl 1 rfl rfl ?_ | refine YU.storeF tabOk rfl rfl rfl 2 rfl rfl ?_ | refine YU.storeF tabOk rfl rfl rfl 3 rfl rfl ?_ | refine YU.storeF tabOk rfl rfl rfl 4 rfl rfl ?_ | refine YU.storeF tabOk rfl rfl rfl 5 rfl rfl ?_ | refine YU.storeAL tabOk rfl rfl rfl 0 rfl rfl ?_ | refine YU.storeAL tabOk rfl rfl rfl 1 rfl rfl ?_ | refine YU.storeAL tabOk rfl rfl rfl 2 rfl rfl ?_ | refine YU.storeAL tabOk rfl rfl rfl 3 rfl rfl ?_ | refine YU.storeAL tabOk rfl rfl rfl 4 rfl rfl ?_)
    | (show Wr _ _ _; first | refine Wr.i64 (by omega) ?_ | refine Wr.u8 (by omega) ?_ | refine Wr.u16 (by omega) ?_ | refine Wr.u32 (by omega) ?_)
    | (show BIf _ _ _; first | refine BIf.pos rfl ?_ | refine BIf.neg rfl ?_)
    | (show Dr _ _ _ _ _ _ _ _ _; first | refine Dr.all (by kernel_rfl) ?_)
    | (show Vc.Fin _ _ _; first | refine Fin.take 1 (And.intro ?_ rfl))
    | intro b)
  all_goals
    show Value.bool _ = Value.bool _
    congr 1
    rw [Bool.eq_iff_iff]
    simp [lsame]
    try omega
/-- The buffer's block. -/
abbrev tlbE (p : Nat) (ls : List Ln) (f m : Int) : Ent := ⟨p, 111, rows lnV ls ++ [.int .i64 f, .int .i64 m]⟩
def flL (pr : Ln → Bool) (ls : List Ln) : List Ln := ls.map (fun l => if l ≠ ln0 ∧ pr l = true then ln0 else l)
def flN (pr : Ln → Bool) (ls : List Ln) : Nat := ls.countP (fun l => decide (l ≠ ln0 ∧ pr l = true))
theorem EqP_ln (l : Ln) : EqP (lnV l) (lnV ln0) ↔ l = ln0 := by
  cases l
  simp [EqP, lnV, ln0]
theorem fl_length (pr : Ln → Bool) (ls : List Ln) (i : Nat) (h : i ≤ ls.length) : (flL pr (ls.take i) ++ ls.drop i).length = ls.length := by simp [flL]; omega
theorem fl_at (pr : Ln → Bool) (ls : List Ln) (i : Nat) (h : i < ls.length) : (flL pr (ls.take i) ++ ls.drop i)[i]? = some ls[i] := by
  rw [List.getElem?_append_right (by simp [flL]; omega)]
  simp [flL, Nat.min_eq_left (Nat.le_of_lt h), List.getElem?_eq_getElem h]
theorem fl_t (pr : Ln → Bool) (ls : List Ln) (i : Nat) (h : i < ls.length) (h1 : ls[i] ≠ ln0 ∧ pr ls[i] = true) : (flL pr (ls.take i) ++ ls.drop i).set i ln0 = flL pr (ls.take (i + 1)) ++ ls.drop (i + 1) := by
  simp only [flL]
  rw [List.take_succ_eq_append_getElem h, List.map_append, List.map_cons, List.map_nil, if_pos h1, List.drop_eq_getElem_cons h]
  rw [List.set_append_right _ _ (by simp; omega)]
  rw [List.length_map, List.length_take, Nat.min_eq_left (Nat.le_of_lt h), Nat.sub_self, List.set_cons_zero, List.append_assoc]
  rfl
theorem fl_f (pr : Ln → Bool) (ls : List Ln) (i : Nat) (h : i < ls.length) (h1 : ¬(ls[i] ≠ ln0 ∧ pr ls[i] = true)) : flL pr (ls.take i) ++ ls.drop i = flL pr (ls.take (i + 1)) ++ ls.drop (i + 1) := by
  simp only [flL]
  rw [List.take_succ_eq_append_getElem h, List.map_append, List.map_cons, List.map_nil, if_neg h1, List.drop_eq_getElem_cons h]
  simp
theorem fn_t (pr : Ln → Bool) (ls : List Ln) (i : Nat) (h : i < ls.length) (h1 : ls[i] ≠ ln0 ∧ pr ls[i] = true) : flN pr (ls.take (i + 1)) = flN pr (ls.take i) + 1 := by
  rw [List.take_succ_eq_append_getElem h, flN, List.countP_append, List.countP_singleton, if_pos (by simpa using h1)]; rfl
theorem fn_f (pr : Ln → Bool) (ls : List Ln) (i : Nat) (h : i < ls.length) (h1 : ¬(ls[i] ≠ ln0 ∧ pr ls[i] = true)) : flN pr (ls.take (i + 1)) = flN pr (ls.take i) := by
  rw [List.take_succ_eq_append_getElem h, flN, List.countP_append, List.countP_singleton, if_neg (by simpa using h1)]; rfl
theorem fn_le (pr : Ln → Bool) (ls : List Ln) : flN pr ls ≤ ls.length := List.countP_le_length

theorem flush1_con (g : Nat) (hg : (Nat.blt 2 g && Nat.blt g tab.calls) = true) (pr : Ln → Bool) (q1 t1 : Nat) (c1 : List Value)
    (hcl : ∀ x w, Own w [⟨q1, t1, c1⟩] → Con Try.prog g [lnA x, .pointer (some ⟨q1, 0, none⟩)] w [⟨q1, t1, c1⟩] (fun v L' => v = .bool (pr x) ∧ L' = [⟨q1, t1, c1⟩]))
    (p : Nat) (ls : List Ln) (hlen : ls.length = 8) (f m : Int) (w : World) (hw : Own w [tlbE p ls f m, ⟨q1, t1, c1⟩]) :
    Con Try.prog 66 [.pointer (some ⟨p, 0, none⟩), .func (.func g) #[] #[.pointer (some ⟨q1, 0, none⟩)]] w [tlbE p ls f m, ⟨q1, t1, c1⟩]
      (fun v L' => v = .int .i64 (flN pr ls) ∧ L' = [tlbE p (flL pr ls) f m, ⟨q1, t1, c1⟩]) := by
  have hN := fn_le pr
  refine Con.of_vc tabOk 34 [.tmp 4] Try.func66 rfl Try.ntmps66 Try.results66 rfl hw ?_
  repeat' ((conv => whnf); first
    | (show _ ∧ _; first | (obtain ⟨rfl, rfl⟩ := hx; refine ⟨rfl, ?_⟩) | (obtain ⟨b, rfl, rfl⟩ := hx; refine ⟨rfl, ?_⟩) | (obtain ⟨b, c, rfl, rfl⟩ := hx; refine ⟨rfl, ?_⟩) | (obtain ⟨rfl, rfl⟩ := hx; refine ⟨rfl, ?_⟩) | (obtain ⟨rfl, rfl⟩ := hx; refine ⟨rfl, ?_⟩) | (obtain ⟨b, rfl, rfl⟩ := hx; refine ⟨rfl, ?_⟩) | (obtain ⟨b, c, rfl, rfl⟩ := hx; refine ⟨rfl, ?_⟩))
    | (show gsplit _ _ _; first | refine gsplit.split (b := pr _) (fun hp => ?_) (fun hp => ?_) | refine gsplit.tt ?_ | refine gsplit.ff ?_ | refine gsplit.dpos (by omega) ?_ | refine gsplit.dneg (by omega) ?_ | refine gsplit.npos (by omega) ?_ | refine gsplit.nneg (by omega) ?_ | refine gsplit.dec (fun hc => ?_) (fun hc => ?_) | refine gsplit.ndec (fun hc => ?_) (fun hc => ?_) | refine gsplit.eq (fun hc => ?_) (fun hc => ?_) | refine gsplit.neq (fun hc => ?_) (fun hc => ?_))
    | (show YQ _ _ _ _ _ _; first | refine YQ.loadRows tabOk rfl 0 rfl lnV_len (by rw [hlen]) ?_ | refine YQ.indexR tabOk rfl ae63 lnV_len i (List.getElem?_eq_getElem (by omega)) rfl (by omega) ?_ | refine YQ.remN (by omega) ?_ | refine YQ.quoN (by omega) ?_ | refine YQ.len tabOk rfl ?_ | refine YQ.idx tabOk rfl (by omega) ?_ | refine YQ.idxA tabOk rfl (by omega) ?_ | refine YQ.sliceA tabOk rfl (by omega) (by omega) ?_ | refine YQ.sliceAll tabOk rfl ?_ | refine YQ.load1 tabOk rfl 0 rfl rfl ?_ | refine YQ.load1 tabOk rfl 1 rfl rfl ?_ | refine YQ.load1 tabOk rfl 2 rfl rfl ?_ | refine YQ.load1 tabOk rfl 3 rfl rfl ?_ | refine YQ.load1 tabOk rfl 4 rfl rfl ?_ | refine YQ.load1 tabOk rfl 5 rfl rfl ?_ | refine YQ.loadF tabOk rfl 0 rfl rfl ?_ | refine YQ.loadF tabOk rfl 1 rfl rfl ?_ | refine YQ.loadF tabOk rfl 2 rfl rfl ?_ | refine YQ.loadF tabOk rfl 3 rfl rfl ?_ | refine YQ.loadF tabOk rfl 4 rfl rfl ?_ | refine YQ.loadF tabOk rfl 5 rfl rfl ?_ | refine YQ.loadA tabOk rfl 0 rfl rfl rfl ?_ | refine YQ.loadA tabOk rfl 1 rfl rfl rfl ?_ | refine YQ.loadA tabOk rfl 2 rfl rfl rfl ?_ | refine YQ.loadA tabOk rfl 3 rfl rfl rfl ?_ | refine YQ.loadA tabOk rfl 4 rfl rfl rfl ?_ | refine YQ.build tabOk rfl rfl rfl ?_ | refine YQ.eqF tabOk rfl rfl rfl ?_ | refine YQ.neF tabOk rfl rfl rfl ?_)
    | (show YC _ _ _ _ _ _ _; first | refine YC.con [1] [⟨q1, t1, c1⟩] rfl rfl (fun w _ hw => hcl _ w hw) (fun x L' hx => ?_))
    | (show YU _ _ _ _ _ _ _ _; first | refine YU.storeRow tabOk rfl 0 i rfl lnV_len (by rw [fl_length] <;> omega) (by omega) ln0 rfl rfl ?_ | refine YU.store1L tabOk rfl rfl 0 rfl rfl ?_ | refine YU.store1L tabOk rfl rfl 1 rfl rfl ?_ | refine YU.store1L tabOk rfl rfl 2 rfl rfl ?_ | refine YU.store1L tabOk rfl rfl 3 rfl rfl ?_ | refine YU.store1L tabOk rfl rfl 4 rfl rfl ?_ | refine YU.storeF tabOk rfl rfl rfl 0 rfl rfl ?_ | refine YU.storeF tabOk rfl rfl rfl 1 rfl rfl ?_ | refine YU.storeF tabOk rfl rfl rfl 2 rfl rfl ?_ | refine YU.storeF tabOk rfl rfl rfl 3 rfl rfl ?_ | refine YU.storeF tabOk rfl rfl rfl 4 rfl rfl ?_ | refine YU.storeF tabOk rfl rfl rfl 5 rfl rfl ?_ | refine YU.storeAL tabOk rfl rfl rfl 0 rfl rfl ?_ | refine YU.storeAL tabOk rfl rfl rfl 1 rfl rfl ?_ | refine YU.storeAL tabOk rfl rfl rfl 2 rfl rfl ?_ | refine YU.storeAL tabOk rfl rfl rfl 3 rfl rfl ?_ | refine YU.storeAL tabOk rfl rfl rfl 4 rfl rfl ?_)
    | (show Wr _ _ _; first | refine Wr.i64 (by have := hN (ls.take i); rw [List.length_take] at this; omega) ?_ | refine Wr.i64 (by omega) ?_ | refine Wr.u8 (by omega) ?_ | refine Wr.u16 (by omega) ?_ | refine Wr.u32 (by omega) ?_)
    | (show BIf _ _ _; first | refine BIf.pos rfl ?_ | refine BIf.neg rfl ?_)
    | (show Lp _ _ _ _ _; first | refine Lp.mk (α := Nat) [12, 5] [0, 1, 11] _ (fun i => [.int .i64 i, .int .i64 (flN pr (ls.take i))]) (fun i => [tlbE p (flL pr (ls.take i) ++ ls.drop i) f m, ⟨q1, t1, c1⟩]) (fun i => i ≤ 8) (fun i => 8 - i) rfl rfl 0 (by omega) rfl ⟨_, rfl⟩ (fun i hi => ?_))
    | (show Dr _ _ _ _ _ _ _ _ _; first | refine Dr.all (by kernel_rfl) ?_)
    | (show Vc.Fin _ _ _; first | (refine Fin.take 2 (And.intro ?_ ?_)))
    | rw [hg]
    | refine ⟨i + 1, by omega, by omega, ?_, ?_⟩
    | intro b)
  · rw [fn_t pr ls i (by omega) ⟨fun h => hc ((EqP_ln _).2 h), hp⟩]; rfl
  · rw [← fl_t pr ls i (by omega) ⟨fun h => hc ((EqP_ln _).2 h), hp⟩]; exact ⟨_, rfl⟩
  · rw [fn_f pr ls i (by omega) (fun h => by rw [hp] at h; exact absurd h.2 (by simp))]; rfl
  · rw [← fl_f pr ls i (by omega) (fun h => by rw [hp] at h; exact absurd h.2 (by simp))]; exact ⟨_, rfl⟩
  · rw [fn_f pr ls i (by omega) (fun h => h.1 ((EqP_ln _).1 hc))]; rfl
  · rw [← fl_f pr ls i (by omega) (fun h => h.1 ((EqP_ln _).1 hc))]; exact ⟨_, rfl⟩
  · have : ls.take i = ls := List.take_of_length_le (by omega)
    rw [this]; rfl
  · have : ls.take i = ls := List.take_of_length_le (by omega)
    rw [this, List.drop_eq_nil_of_le (by omega), List.append_nil]; rfl
theorem flush0_con (g : Nat) (hg : (Nat.blt 2 g && Nat.blt g tab.calls) = true) (pr : Ln → Bool) 
    (hcl : ∀ x w, Own w [] → Con Try.prog g [lnA x] w [] (fun v L' => v = .bool (pr x) ∧ L' = []))
    (p : Nat) (ls : List Ln) (hlen : ls.length = 8) (f m : Int) (w : World) (hw : Own w [tlbE p ls f m]) :
    Con Try.prog 66 [.pointer (some ⟨p, 0, none⟩), .func (.func g) #[] #[]] w [tlbE p ls f m]
      (fun v L' => v = .int .i64 (flN pr ls) ∧ L' = [tlbE p (flL pr ls) f m]) := by
  have hN := fn_le pr
  refine Con.of_vc tabOk 34 [.tmp 4] Try.func66 rfl Try.ntmps66 Try.results66 rfl hw ?_
  repeat' ((conv => whnf); first
    | (show _ ∧ _; first | (obtain ⟨rfl, rfl⟩ := hx; refine ⟨rfl, ?_⟩) | (obtain ⟨b, rfl, rfl⟩ := hx; refine ⟨rfl, ?_⟩) | (obtain ⟨b, c, rfl, rfl⟩ := hx; refine ⟨rfl, ?_⟩) | (obtain ⟨rfl, rfl⟩ := hx; refine ⟨rfl, ?_⟩) | (obtain ⟨rfl, rfl⟩ := hx; refine ⟨rfl, ?_⟩) | (obtain ⟨b, rfl, rfl⟩ := hx; refine ⟨rfl, ?_⟩) | (obtain ⟨b, c, rfl, rfl⟩ := hx; refine ⟨rfl, ?_⟩))
    | (show gsplit _ _ _; first | refine gsplit.split (b := pr _) (fun hp => ?_) (fun hp => ?_) | refine gsplit.tt ?_ | refine gsplit.ff ?_ | refine gsplit.dpos (by omega) ?_ | refine gsplit.dneg (by omega) ?_ | refine gsplit.npos (by omega) ?_ | refine gsplit.nneg (by omega) ?_ | refine gsplit.dec (fun hc => ?_) (fun hc => ?_) | refine gsplit.ndec (fun hc => ?_) (fun hc => ?_) | refine gsplit.eq (fun hc => ?_) (fun hc => ?_) | refine gsplit.neq (fun hc => ?_) (fun hc => ?_))
    | (show YQ _ _ _ _ _ _; first | refine YQ.loadRows tabOk rfl 0 rfl lnV_len (by rw [hlen]) ?_ | refine YQ.indexR tabOk rfl ae63 lnV_len i (List.getElem?_eq_getElem (by omega)) rfl (by omega) ?_ | refine YQ.remN (by omega) ?_ | refine YQ.quoN (by omega) ?_ | refine YQ.len tabOk rfl ?_ | refine YQ.idx tabOk rfl (by omega) ?_ | refine YQ.idxA tabOk rfl (by omega) ?_ | refine YQ.sliceA tabOk rfl (by omega) (by omega) ?_ | refine YQ.sliceAll tabOk rfl ?_ | refine YQ.load1 tabOk rfl 0 rfl rfl ?_ | refine YQ.load1 tabOk rfl 1 rfl rfl ?_ | refine YQ.load1 tabOk rfl 2 rfl rfl ?_ | refine YQ.load1 tabOk rfl 3 rfl rfl ?_ | refine YQ.load1 tabOk rfl 4 rfl rfl ?_ | refine YQ.load1 tabOk rfl 5 rfl rfl ?_ | refine YQ.loadF tabOk rfl 0 rfl rfl ?_ | refine YQ.loadF tabOk rfl 1 rfl rfl ?_ | refine YQ.loadF tabOk rfl 2 rfl rfl ?_ | refine YQ.loadF tabOk rfl 3 rfl rfl ?_ | refine YQ.loadF tabOk rfl 4 rfl rfl ?_ | refine YQ.loadF tabOk rfl 5 rfl rfl ?_ | refine YQ.loadA tabOk rfl 0 rfl rfl rfl ?_ | refine YQ.loadA tabOk rfl 1 rfl rfl rfl ?_ | refine YQ.loadA tabOk rfl 2 rfl rfl rfl ?_ | refine YQ.loadA tabOk rfl 3 rfl rfl rfl ?_ | refine YQ.loadA tabOk rfl 4 rfl rfl rfl ?_ | refine YQ.build tabOk rfl rfl rfl ?_ | refine YQ.eqF tabOk rfl rfl rfl ?_ | refine YQ.neF tabOk rfl rfl rfl ?_)
    | (show YC _ _ _ _ _ _ _; first | refine YC.con [] [] rfl rfl (fun w _ hw => hcl _ w hw) (fun x L' hx => ?_))
    | (show YU _ _ _ _ _ _ _ _; first | refine YU.storeRow tabOk rfl 0 i rfl lnV_len (by rw [fl_length] <;> omega) (by omega) ln0 rfl rfl ?_ | refine YU.store1L tabOk rfl rfl 0 rfl rfl ?_ | refine YU.store1L tabOk rfl rfl 1 rfl rfl ?_ | refine YU.store1L tabOk rfl rfl 2 rfl rfl ?_ | refine YU.store1L tabOk rfl rfl 3 rfl rfl ?_ | refine YU.store1L tabOk rfl rfl 4 rfl rfl ?_ | refine YU.storeF tabOk rfl rfl rfl 0 rfl rfl ?_ | refine YU.storeF tabOk rfl rfl rfl 1 rfl rfl ?_ | refine YU.storeF tabOk rfl rfl rfl 2 rfl rfl ?_ | refine YU.storeF tabOk rfl rfl rfl 3 rfl rfl ?_ | refine YU.storeF tabOk rfl rfl rfl 4 rfl rfl ?_ | refine YU.storeF tabOk rfl rfl rfl 5 rfl rfl ?_ | refine YU.storeAL tabOk rfl rfl rfl 0 rfl rfl ?_ | refine YU.storeAL tabOk rfl rfl rfl 1 rfl rfl ?_ | refine YU.storeAL tabOk rfl rfl rfl 2 rfl rfl ?_ | refine YU.storeAL tabOk rfl rfl rfl 3 rfl rfl ?_ | refine YU.storeAL tabOk rfl rfl rfl 4 rfl rfl ?_)
    | (show Wr _ _ _; first | refine Wr.i64 (by have := hN (ls.take i); rw [List.length_take] at this; omega) ?_ | refine Wr.i64 (by omega) ?_ | refine Wr.u8 (by omega) ?_ | refine Wr.u16 (by omega) ?_ | refine Wr.u32 (by omega) ?_)
    | (show BIf _ _ _; first | refine BIf.pos rfl ?_ | refine BIf.neg rfl ?_)
    | (show Lp _ _ _ _ _; first | refine Lp.mk (α := Nat) [12, 5] [0, 1, 11] _ (fun i => [.int .i64 i, .int .i64 (flN pr (ls.take i))]) (fun i => [tlbE p (flL pr (ls.take i) ++ ls.drop i) f m]) (fun i => i ≤ 8) (fun i => 8 - i) rfl rfl 0 (by omega) rfl ⟨_, rfl⟩ (fun i hi => ?_))
    | (show Dr _ _ _ _ _ _ _ _ _; first | refine Dr.all (by kernel_rfl) ?_)
    | (show Vc.Fin _ _ _; first | (refine Fin.take 1 (And.intro ?_ ?_)))
    | rw [hg]
    | refine ⟨i + 1, by omega, by omega, ?_, ?_⟩
    | intro b)
  · rw [fn_t pr ls i (by omega) ⟨fun h => hc ((EqP_ln _).2 h), hp⟩]; rfl
  · rw [← fl_t pr ls i (by omega) ⟨fun h => hc ((EqP_ln _).2 h), hp⟩]; exact ⟨_, rfl⟩
  · rw [fn_f pr ls i (by omega) (fun h => by rw [hp] at h; exact absurd h.2 (by simp))]; rfl
  · rw [← fl_f pr ls i (by omega) (fun h => by rw [hp] at h; exact absurd h.2 (by simp))]; exact ⟨_, rfl⟩
  · rw [fn_f pr ls i (by omega) (fun h => h.1 ((EqP_ln _).1 hc))]; rfl
  · rw [← fl_f pr ls i (by omega) (fun h => h.1 ((EqP_ln _).1 hc))]; exact ⟨_, rfl⟩
  · have : ls.take i = ls := List.take_of_length_le (by omega)
    rw [this]; rfl
  · have : ls.take i = ls := List.take_of_length_le (by omega)
    rw [this, List.drop_eq_nil_of_le (by omega), List.append_nil]; rfl
theorem flush2_con (g : Nat) (hg : (Nat.blt 2 g && Nat.blt g tab.calls) = true) (pr : Ln → Bool) (q1 t1 : Nat) (c1 : List Value) (q2 t2 : Nat) (c2 : List Value)
    (hcl : ∀ x w, Own w [⟨q1, t1, c1⟩, ⟨q2, t2, c2⟩] → Con Try.prog g [lnA x, .pointer (some ⟨q1, 0, none⟩), .pointer (some ⟨q2, 0, none⟩)] w [⟨q1, t1, c1⟩, ⟨q2, t2, c2⟩] (fun v L' => v = .bool (pr x) ∧ L' = [⟨q1, t1, c1⟩, ⟨q2, t2, c2⟩]))
    (p : Nat) (ls : List Ln) (hlen : ls.length = 8) (f m : Int) (w : World) (hw : Own w [tlbE p ls f m, ⟨q1, t1, c1⟩, ⟨q2, t2, c2⟩]) :
    Con Try.prog 66 [.pointer (some ⟨p, 0, none⟩), .func (.func g) #[] #[.pointer (some ⟨q1, 0, none⟩), .pointer (some ⟨q2, 0, none⟩)]] w [tlbE p ls f m, ⟨q1, t1, c1⟩, ⟨q2, t2, c2⟩]
      (fun v L' => v = .int .i64 (flN pr ls) ∧ L' = [tlbE p (flL pr ls) f m, ⟨q1, t1, c1⟩, ⟨q2, t2, c2⟩]) := by
  have hN := fn_le pr
  refine Con.of_vc tabOk 34 [.tmp 4] Try.func66 rfl Try.ntmps66 Try.results66 rfl hw ?_
  repeat' ((conv => whnf); first
    | (show _ ∧ _; first | (obtain ⟨rfl, rfl⟩ := hx; refine ⟨rfl, ?_⟩) | (obtain ⟨b, rfl, rfl⟩ := hx; refine ⟨rfl, ?_⟩) | (obtain ⟨b, c, rfl, rfl⟩ := hx; refine ⟨rfl, ?_⟩) | (obtain ⟨rfl, rfl⟩ := hx; refine ⟨rfl, ?_⟩) | (obtain ⟨rfl, rfl⟩ := hx; refine ⟨rfl, ?_⟩) | (obtain ⟨b, rfl, rfl⟩ := hx; refine ⟨rfl, ?_⟩) | (obtain ⟨b, c, rfl, rfl⟩ := hx; refine ⟨rfl, ?_⟩))
    | (show gsplit _ _ _; first | refine gsplit.split (b := pr _) (fun hp => ?_) (fun hp => ?_) | refine gsplit.tt ?_ | refine gsplit.ff ?_ | refine gsplit.dpos (by omega) ?_ | refine gsplit.dneg (by omega) ?_ | refine gsplit.npos (by omega) ?_ | refine gsplit.nneg (by omega) ?_ | refine gsplit.dec (fun hc => ?_) (fun hc => ?_) | refine gsplit.ndec (fun hc => ?_) (fun hc => ?_) | refine gsplit.eq (fun hc => ?_) (fun hc => ?_) | refine gsplit.neq (fun hc => ?_) (fun hc => ?_))
    | (show YQ _ _ _ _ _ _; first | refine YQ.loadRows tabOk rfl 0 rfl lnV_len (by rw [hlen]) ?_ | refine YQ.indexR tabOk rfl ae63 lnV_len i (List.getElem?_eq_getElem (by omega)) rfl (by omega) ?_ | refine YQ.remN (by omega) ?_ | refine YQ.quoN (by omega) ?_ | refine YQ.len tabOk rfl ?_ | refine YQ.idx tabOk rfl (by omega) ?_ | refine YQ.idxA tabOk rfl (by omega) ?_ | refine YQ.sliceA tabOk rfl (by omega) (by omega) ?_ | refine YQ.sliceAll tabOk rfl ?_ | refine YQ.load1 tabOk rfl 0 rfl rfl ?_ | refine YQ.load1 tabOk rfl 1 rfl rfl ?_ | refine YQ.load1 tabOk rfl 2 rfl rfl ?_ | refine YQ.load1 tabOk rfl 3 rfl rfl ?_ | refine YQ.load1 tabOk rfl 4 rfl rfl ?_ | refine YQ.load1 tabOk rfl 5 rfl rfl ?_ | refine YQ.loadF tabOk rfl 0 rfl rfl ?_ | refine YQ.loadF tabOk rfl 1 rfl rfl ?_ | refine YQ.loadF tabOk rfl 2 rfl rfl ?_ | refine YQ.loadF tabOk rfl 3 rfl rfl ?_ | refine YQ.loadF tabOk rfl 4 rfl rfl ?_ | refine YQ.loadF tabOk rfl 5 rfl rfl ?_ | refine YQ.loadA tabOk rfl 0 rfl rfl rfl ?_ | refine YQ.loadA tabOk rfl 1 rfl rfl rfl ?_ | refine YQ.loadA tabOk rfl 2 rfl rfl rfl ?_ | refine YQ.loadA tabOk rfl 3 rfl rfl rfl ?_ | refine YQ.loadA tabOk rfl 4 rfl rfl rfl ?_ | refine YQ.build tabOk rfl rfl rfl ?_ | refine YQ.eqF tabOk rfl rfl rfl ?_ | refine YQ.neF tabOk rfl rfl rfl ?_)
    | (show YC _ _ _ _ _ _ _; first | refine YC.con [1, 2] [⟨q1, t1, c1⟩, ⟨q2, t2, c2⟩] rfl rfl (fun w _ hw => hcl _ w hw) (fun x L' hx => ?_))
    | (show YU _ _ _ _ _ _ _ _; first | refine YU.storeRow tabOk rfl 0 i rfl lnV_len (by rw [fl_length] <;> omega) (by omega) ln0 rfl rfl ?_ | refine YU.store1L tabOk rfl rfl 0 rfl rfl ?_ | refine YU.store1L tabOk rfl rfl 1 rfl rfl ?_ | refine YU.store1L tabOk rfl rfl 2 rfl rfl ?_ | refine YU.store1L tabOk rfl rfl 3 rfl rfl ?_ | refine YU.store1L tabOk rfl rfl 4 rfl rfl ?_ | refine YU.storeF tabOk rfl rfl rfl 0 rfl rfl ?_ | refine YU.storeF tabOk rfl rfl rfl 1 rfl rfl ?_ | refine YU.storeF tabOk rfl rfl rfl 2 rfl rfl ?_ | refine YU.storeF tabOk rfl rfl rfl 3 rfl rfl ?_ | refine YU.storeF tabOk rfl rfl rfl 4 rfl rfl ?_ | refine YU.storeF tabOk rfl rfl rfl 5 rfl rfl ?_ | refine YU.storeAL tabOk rfl rfl rfl 0 rfl rfl ?_ | refine YU.storeAL tabOk rfl rfl rfl 1 rfl rfl ?_ | refine YU.storeAL tabOk rfl rfl rfl 2 rfl rfl ?_ | refine YU.storeAL tabOk rfl rfl rfl 3 rfl rfl ?_ | refine YU.storeAL tabOk rfl rfl rfl 4 rfl rfl ?_)
    | (show Wr _ _ _; first | refine Wr.i64 (by have := hN (ls.take i); rw [List.length_take] at this; omega) ?_ | refine Wr.i64 (by omega) ?_ | refine Wr.u8 (by omega) ?_ | refine Wr.u16 (by omega) ?_ | refine Wr.u32 (by omega) ?_)
    | (show BIf _ _ _; first | refine BIf.pos rfl ?_ | refine BIf.neg rfl ?_)
    | (show Lp _ _ _ _ _; first | refine Lp.mk (α := Nat) [12, 5] [0, 1, 11] _ (fun i => [.int .i64 i, .int .i64 (flN pr (ls.take i))]) (fun i => [tlbE p (flL pr (ls.take i) ++ ls.drop i) f m, ⟨q1, t1, c1⟩, ⟨q2, t2, c2⟩]) (fun i => i ≤ 8) (fun i => 8 - i) rfl rfl 0 (by omega) rfl ⟨_, rfl⟩ (fun i hi => ?_))
    | (show Dr _ _ _ _ _ _ _ _ _; first | refine Dr.all (by kernel_rfl) ?_)
    | (show Vc.Fin _ _ _; first | (refine Fin.take 3 (And.intro ?_ ?_)))
    | rw [hg]
    | refine ⟨i + 1, by omega, by omega, ?_, ?_⟩
    | intro b)
  · rw [fn_t pr ls i (by omega) ⟨fun h => hc ((EqP_ln _).2 h), hp⟩]; rfl
  · rw [← fl_t pr ls i (by omega) ⟨fun h => hc ((EqP_ln _).2 h), hp⟩]; exact ⟨_, rfl⟩
  · rw [fn_f pr ls i (by omega) (fun h => by rw [hp] at h; exact absurd h.2 (by simp))]; rfl
  · rw [← fl_f pr ls i (by omega) (fun h => by rw [hp] at h; exact absurd h.2 (by simp))]; exact ⟨_, rfl⟩
  · rw [fn_f pr ls i (by omega) (fun h => h.1 ((EqP_ln _).1 hc))]; rfl
  · rw [← fl_f pr ls i (by omega) (fun h => h.1 ((EqP_ln _).1 hc))]; exact ⟨_, rfl⟩
  · have : ls.take i = ls := List.take_of_length_le (by omega)
    rw [this]; rfl
  · have : ls.take i = ls := List.take_of_length_le (by omega)
    rw [this, List.drop_eq_nil_of_le (by omega), List.append_nil]; rfl
end Go.Proofs.Ytbohpchmofkllaa
