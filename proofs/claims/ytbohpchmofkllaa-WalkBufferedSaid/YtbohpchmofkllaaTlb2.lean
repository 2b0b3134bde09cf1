/- Contracts of the buffer of translations: filling, finding, evicting, flushing. Conditions: none. -/
import Derived.Test.YtbohpchmofkllaaTlb
set_option linter.unusedVariables false
set_option linter.unusedSimpArgs false
set_option maxRecDepth 10000
set_option maxHeartbeats 4000000
namespace Go.Proofs.Ytbohpchmofkllaa
open Vc
abbrev lnT : Nat := 70
theorem rows_one {α : Type} {g : α → List Value} (h : ∀ x, (g x).all (·.oneCell') = true) (ls : List α) : (rows g ls).all (·.oneCell') = true := by
  induction ls with
  | nil => rfl
  | cons x r ih => rw [rows_cons, List.all_append, h, ih]; rfl
/-- That a line is for this page. -/
def mt (v a p : Int) (l : Ln) : Bool := decide (l ≠ ln0 ∧ l.v = v ∧ l.a = a ∧ l.p = p)
def fndV : Option Ln → Value
  | some l => .tuple #[.int .i64 l.f, .int .i64 l.r, .bool true]
  | none => .tuple #[.int .i64 0, .int .i64 0, .bool false]
def up (x : Int) : Int := IntKind.i64.wrap (x + 1)
def fndF (f : Int) : Option Ln → Int
  | some _ => up f
  | none => f
def fndM (m : Int) : Option Ln → Int
  | some _ => m
  | none => up m
theorem find_step_t {v a p : Int} {ls : List Ln} {i : Nat} (h : i < ls.length) (h1 : mt v a p ls[i] = true) : (ls.drop i).find? (mt v a p) = some ls[i] := by
  rw [List.drop_eq_getElem_cons h, List.find?_cons_of_pos h1]
theorem find_step_f {v a p : Int} {ls : List Ln} {i : Nat} (h : i < ls.length) (h1 : ¬ mt v a p ls[i] = true) : (ls.drop i).find? (mt v a p) = (ls.drop (i + 1)).find? (mt v a p) := by
  rw [List.drop_eq_getElem_cons h, List.find?_cons_of_neg h1]
theorem find_con (p : Nat) (ls : List Ln) (hlen : ls.length = 8) (f m v a pg : Int) (w : World) (hw : Own w [tlbE p ls f m]) :
    Con Try.prog 54 [.pointer (some ⟨p, 0, none⟩), .int .i64 v, .int .i64 a, .int .i64 pg] w [tlbE p ls f m]
      (fun x L' => x = fndV (ls.find? (mt v a pg)) ∧ L' = [tlbE p ls (fndF f (ls.find? (mt v a pg))) (fndM m (ls.find? (mt v a pg)))]) := by
  refine Con.of_vc tabOk 60 [.tmp 8, .tmp 9, .tmp 10] Try.func54 rfl Try.ntmps54 Try.results54 rfl hw ?_
  repeat' ((conv => whnf); first
    | (show _ ∧ _; first | (obtain ⟨rfl, rfl⟩ := hx; refine ⟨rfl, ?_⟩) | (obtain ⟨b, rfl, rfl⟩ := hx; refine ⟨rfl, ?_⟩) | (obtain ⟨b, c, rfl, rfl⟩ := hx; refine ⟨rfl, ?_⟩))
    | (show gsplit _ _ _; first | refine gsplit.tt ?_ | refine gsplit.ff ?_ | refine gsplit.dpos (by omega) ?_ | refine gsplit.dneg (by omega) ?_ | refine gsplit.npos (by omega) ?_ | refine gsplit.nneg (by omega) ?_ | refine gsplit.dec (fun hc => ?_) (fun hc => ?_) | refine gsplit.ndec (fun hc => ?_) (fun hc => ?_) | refine gsplit.eq (fun hc => ?_) (fun hc => ?_) | refine gsplit.neq (fun hc => ?_) (fun hc => ?_))
    | (show YQ _ _ _ _ _ _; first | refine YQ.loadRows tabOk rfl 0 rfl lnV_len (by rw [hlen]) ?_ | refine YQ.indexR tabOk rfl ae63 lnV_len i (List.getElem?_eq_getElem (by omega)) rfl (by omega) ?_ | refine YQ.loadT tabOk rfl 0 rfl lnV_len 0 (by omega) rfl ?_ | refine YQ.loadT tabOk rfl 0 rfl lnV_len 1 (by omega) rfl ?_ | refine YQ.remN (by omega) ?_ | refine YQ.quoN (by omega) ?_ | refine YQ.len tabOk rfl ?_ | refine YQ.idx tabOk rfl (by omega) ?_ | refine YQ.idxA tabOk rfl (by omega) ?_ | refine YQ.sliceA tabOk rfl (by omega) (by omega) ?_ | refine YQ.sliceAll tabOk rfl ?_ | refine YQ.load1 tabOk rfl 0 rfl rfl ?_ | refine YQ.load1 tabOk rfl 1 rfl rfl ?_ | refine YQ.load1 tabOk rfl 2 rfl rfl ?_ | refine YQ.load1 tabOk rfl 3 rfl rfl ?_ | refine YQ.load1 tabOk rfl 4 rfl rfl ?_ | refine YQ.load1 tabOk rfl 5 rfl rfl ?_ | refine YQ.loadF tabOk rfl 0 rfl rfl ?_ | refine YQ.loadF tabOk rfl 1 rfl rfl ?_ | refine YQ.loadF tabOk rfl 2 rfl rfl ?_ | refine YQ.loadF tabOk rfl 3 rfl rfl ?_ | refine YQ.loadF tabOk rfl 4 rfl rfl ?_ | refine YQ.loadF tabOk rfl 5 rfl rfl ?_ | refine YQ.loadA tabOk rfl 0 rfl rfl rfl ?_ | refine YQ.loadA tabOk rfl 1 rfl rfl rfl ?_ | refine YQ.loadA tabOk rfl 2 rfl rfl rfl ?_ | refine YQ.loadA tabOk rfl 3 rfl rfl rfl ?_ | refine YQ.loadA tabOk rfl 4 rfl rfl rfl ?_ | refine YQ.build tabOk rfl rfl rfl ?_ | refine YQ.eqF tabOk rfl rfl rfl ?_ | refine YQ.neF tabOk rfl rfl rfl ?_)
    | (show YU _ _ _ _ _ _ _ _; first | refine YU.storeT tabOk rfl rfl 0 rfl lnV_len 0 (by omega) (by simp) ?_ | refine YU.storeT tabOk rfl rfl 0 rfl lnV_len 1 (by omega) (by simp) ?_ | refine YU.store1L tabOk rfl rfl 0 rfl rfl ?_ | refine YU.store1L tabOk rfl rfl 1 rfl rfl ?_ | refine YU.store1L tabOk rfl rfl 2 rfl rfl ?_ | refine YU.store1L tabOk rfl rfl 3 rfl rfl ?_ | refine YU.store1L tabOk rfl rfl 4 rfl rfl ?_ | refine YU.storeF tabOk rfl rfl rfl 0 rfl rfl ?_ | refine YU.storeF tabOk rfl rfl rfl 1 rfl rfl ?_ | refine YU.storeF tabOk rfl rfl rfl 2 rfl rfl ?_ | refine YU.storeF tabOk rfl rfl rfl 3 rfl rfl ?_ | refine YU.storeF tabOk rfl rfl rfl 4 rfl rfl ?_ | refine YU.storeF tabOk rfl rfl rfl 5 rfl rfl ?_ | refine YU.storeAL tabOk rfl rfl rfl 0 rfl rfl ?_ | refine YU.storeAL tabOk rfl rfl rfl 1 rfl rfl ?_ | refine YU.storeAL tabOk rfl rfl rfl 2 rfl rfl ?_ | refine YU.storeAL tabOk rfl rfl rfl 3 rfl rfl ?_ | refine YU.storeAL tabOk rfl rfl rfl 4 rfl rfl ?_)
    | (show Wr _ _ _; first | refine Wr.i64 (by omega) ?_ | refine Wr.any ?_ | refine Wr.i64 (by omega) ?_ | refine Wr.u8 (by omega) ?_ | refine Wr.u16 (by omega) ?_ | refine Wr.u32 (by omega) ?_)
    | (show BIf _ _ _; first | refine BIf.pos rfl ?_ | refine BIf.neg rfl ?_)
    | (show Lp _ _ _ _ _; first | refine Lp.mk (α := Nat) [17] [0, 1, 2, 3, 16] _ (fun i => [.int .i64 i]) (fun i => [tlbE p ls f m]) (fun i => i ≤ 8 ∧ ls.find? (mt v a pg) = (ls.drop i).find? (mt v a pg)) (fun i => 8 - i) rfl rfl 0 ⟨by omega, rfl⟩ rfl ⟨_, rfl⟩ (fun i hi => ?_))
    | (show Dr _ _ _ _ _ _ _ _ _; first | refine Dr.all (by kernel_rfl) ?_)
    | (show Vc.Fin _ _ _; first | (refine Fin.take 1 (And.intro ?_ ?_)))
    | refine ⟨i + 1, ⟨by omega, ?_⟩, by omega, rfl, ⟨_, rfl⟩⟩
    | intro b)
  · rw [hi.2, find_step_t (by omega) (by simp only [mt, decide_eq_true_eq]; exact ⟨fun h => absurd ((EqP_ln _).2 h) (by assumption), by assumption, by assumption, by assumption⟩)]; rfl
  · rw [hi.2, find_step_t (by omega) (by simp only [mt, decide_eq_true_eq]; exact ⟨fun h => absurd ((EqP_ln _).2 h) (by assumption), by assumption, by assumption, by assumption⟩)]; rfl
  · rw [hi.2, find_step_f (by omega) (by simp only [mt, decide_eq_true_eq]; exact fun h => hc h.2.2.2)]
  · rw [hi.2, find_step_f (by omega) (by simp only [mt, decide_eq_true_eq]; exact fun h => hc h.2.2.1)]
  · rw [hi.2, find_step_f (by omega) (by simp only [mt, decide_eq_true_eq]; exact fun h => hc h.2.1)]
  · rw [hi.2, find_step_f (by omega) (by simp only [mt, decide_eq_true_eq]; exact fun h => h.1 ((EqP_ln _).1 hc))]
  · rw [hi.2, List.drop_eq_nil_of_le (by omega)]; rfl
  · rw [hi.2, List.drop_eq_nil_of_le (by omega)]; rfl

/-! The flushes. -/
def prPage (v pg : Int) (l : Ln) : Bool := decide (l.v = v ∧ l.p = pg)
def prAsid (v a : Int) (l : Ln) : Bool := decide (l.v = v ∧ l.a = a)
def prVmid (v : Int) (l : Ln) : Bool := decide (l.v = v)
def prAll (l : Ln) : Bool := true
section
variable (p : Nat) (ls : List Ln) (hlen : ls.length = 8) (f m : Int) (w : World) (hw : Own w [tlbE p ls f m])
include hlen hw
/-- What filling answers, and leaves. -/
def atP (at_ : Int) : Prop := 0 ≤ at_ ∧ at_ ≤ 7
instance (x : Int) : Decidable (atP x) := by unfold atP; infer_instance
def fillE (at_ : Int) (l : Ln) : Int := if atP at_ then (if lnRight l then 0 else 30) else 1
def fillL (at_ : Int) (l : Ln) (ls : List Ln) : List Ln := if atP at_ ∧ lnRight l then (flL (lsame l) ls).set at_.toNat l else ls
def evE (at_ : Int) : Int := if atP at_ then 0 else 1
def evL (at_ : Int) (ls : List Ln) : List Ln := if atP at_ then ls.set at_.toNat ln0 else ls
theorem fill_con (at_ : Int) (l : Ln) : Con Try.prog 55 [.pointer (some ⟨p, 0, none⟩), .int .i64 at_, lnA l] w [tlbE p ls f m]
    (fun y L' => y = .int .i64 (fillE at_ l) ∧ L' = [tlbE p (fillL at_ l ls) f m]) := by
  have hfl : (flL (lsame l) ls).length = 8 := by simp [flL, hlen]
  refine Con.of_vc tabOk 24 [.tmp 6] Try.func55 rfl Try.ntmps55 Try.results55 rfl hw ?_
  repeat' ((conv => whnf); first
    | (show _ ∧ _; first | (obtain ⟨rfl, rfl⟩ := hx; refine ⟨rfl, ?_⟩) | (obtain ⟨b, rfl, rfl⟩ := hx; refine ⟨rfl, ?_⟩) | (obtain ⟨b, c, rfl, rfl⟩ := hx; refine ⟨rfl, ?_⟩) | (obtain ⟨rfl, rfl⟩ := hx; refine ⟨rfl, ?_⟩) | (obtain ⟨rfl, rfl⟩ := hx; refine ⟨rfl, ?_⟩) | (obtain ⟨b, rfl, rfl⟩ := hx; refine ⟨rfl, ?_⟩) | (obtain ⟨b, c, rfl, rfl⟩ := hx; refine ⟨rfl, ?_⟩))
    | (show gsplit _ _ _; first | refine gsplit.tt ?_ | refine gsplit.ff ?_ | refine gsplit.dpos (by omega) ?_ | refine gsplit.dneg (by omega) ?_ | refine gsplit.npos (by omega) ?_ | refine gsplit.nneg (by omega) ?_ | refine gsplit.dec (fun hc => ?_) (fun hc => ?_) | refine gsplit.ndec (fun hc => ?_) (fun hc => ?_) | refine gsplit.eq (fun hc => ?_) (fun hc => ?_) | refine gsplit.neq (fun hc => ?_) (fun hc => ?_))
    | (show YQ _ _ _ _ _ _; first | refine YQ.remN (by omega) ?_ | refine YQ.quoN (by omega) ?_ | refine YQ.len tabOk rfl ?_ | refine YQ.idx tabOk rfl (by omega) ?_ | refine YQ.idxA tabOk rfl (by omega) ?_ | refine YQ.sliceA tabOk rfl (by omega) (by omega) ?_ | refine YQ.sliceAll tabOk rfl ?_ | refine YQ.load1 tabOk rfl 0 rfl rfl ?_ | refine YQ.load1 tabOk rfl 1 rfl rfl ?_ | refine YQ.load1 tabOk rfl 2 rfl rfl ?_ | refine YQ.load1 tabOk rfl 3 rfl rfl ?_ | refine YQ.load1 tabOk rfl 4 rfl rfl ?_ | refine YQ.load1 tabOk rfl 5 rfl rfl ?_ | refine YQ.loadF tabOk rfl 0 rfl rfl ?_ | refine YQ.loadF tabOk rfl 1 rfl rfl ?_ | refine YQ.loadF tabOk rfl 2 rfl rfl ?_ | refine YQ.loadF tabOk rfl 3 rfl rfl ?_ | refine YQ.loadF tabOk rfl 4 rfl rfl ?_ | refine YQ.loadF tabOk rfl 5 rfl rfl ?_ | refine YQ.loadA tabOk rfl 0 rfl rfl rfl ?_ | refine YQ.loadA tabOk rfl 1 rfl rfl rfl ?_ | refine YQ.loadA tabOk rfl 2 rfl rfl rfl ?_ | refine YQ.loadA tabOk rfl 3 rfl rfl rfl ?_ | refine YQ.loadA tabOk rfl 4 rfl rfl rfl ?_ | refine YQ.build tabOk rfl rfl rfl ?_ | refine YQ.eqF tabOk rfl rfl rfl ?_ | refine YQ.neF tabOk rfl rfl rfl ?_)
    | (show YC _ _ _ _ _ _ _; first | refine YC.con [] [] rfl rfl (fun w _ _ => within_con _ _ _ w) (fun x L' hx => ?_) | refine YC.con [] [] rfl rfl (fun w _ _ => lright_con _ w) (fun x L' hx => ?_) | refine YC.con [0, 1] _ rfl rfl (fun w _ hw => flush1_con _ rfl (lsame l) _ _ _ (fun x w hw => same_con x l _ w hw) p ls hlen f m w hw) (fun x L' hx => ?_))
    | (show YU _ _ _ _ _ _ _ _; first | refine YU.storeRow tabOk rfl 0 at_.toNat rfl lnV_len (by omega) (by omega) l rfl rfl ?_ | refine YU.store1L tabOk rfl rfl 0 rfl rfl ?_ | refine YU.store1L tabOk rfl rfl 1 rfl rfl ?_ | refine YU.store1L tabOk rfl rfl 2 rfl rfl ?_ | refine YU.store1L tabOk rfl rfl 3 rfl rfl ?_ | refine YU.store1L tabOk rfl rfl 4 rfl rfl ?_ | refine YU.storeF tabOk rfl rfl rfl 0 rfl rfl ?_ | refine YU.storeF tabOk rfl rfl rfl 1 rfl rfl ?_ | refine YU.storeF tabOk rfl rfl rfl 2 rfl rfl ?_ | refine YU.storeF tabOk rfl rfl rfl 3 rfl rfl ?_ | refine YU.storeF tabOk rfl rfl rfl 4 rfl rfl ?_ | refine YU.storeF tabOk rfl rfl rfl 5 rfl rfl ?_ | refine YU.storeAL tabOk rfl rfl rfl 0 rfl rfl ?_ | refine YU.storeAL tabOk rfl rfl rfl 1 rfl rfl ?_ | refine YU.storeAL tabOk rfl rfl rfl 2 rfl rfl ?_ | refine YU.storeAL tabOk rfl rfl rfl 3 rfl rfl ?_ | refine YU.storeAL tabOk rfl rfl rfl 4 rfl rfl ?_)
    | (show Wr _ _ _; first | refine Wr.i64 (by omega) ?_ | refine Wr.u8 (by omega) ?_ | refine Wr.u16 (by omega) ?_ | refine Wr.u32 (by omega) ?_)
    | (show BIf _ _ _; first | refine BIf.pos rfl ?_ | refine BIf.neg rfl ?_)
    | (show Dr _ _ _ _ _ _ _ _ _; first | refine Dr.mk 6 (by kernel_rfl) ?_ | refine Dr.all (by kernel_rfl) ?_)
    | (show Vc.Fin _ _ _; first | refine Fin.take 1 (And.intro ?_ ?_))
    | intro b)
  · have e : fillE at_ l = 1 := if_neg hc
    rw [e]; rfl
  · have e : fillL at_ l ls = ls := if_neg (fun h => hc h.1)
    rw [e]; rfl
  · have e : fillE at_ l = 30 := (if_pos (by unfold atP; omega)).trans (if_neg hc)
    rw [e]; rfl
  · have e : fillL at_ l ls = ls := if_neg (fun h => hc h.2)
    rw [e]; rfl
  · have e : fillE at_ l = 0 := (if_pos (by unfold atP; omega)).trans (if_pos hc)
    rw [e]; rfl
  · have e : fillL at_ l ls = (flL (lsame l) ls).set at_.toNat l := if_pos ⟨by unfold atP; omega, hc⟩
    rw [e]; rfl
theorem evict_con (at_ : Int) : Con Try.prog 25 [.pointer (some ⟨p, 0, none⟩), .int .i64 at_] w [tlbE p ls f m]
    (fun y L' => y = .int .i64 (evE at_) ∧ L' = [tlbE p (evL at_ ls) f m]) := by
  refine Con.of_vc tabOk 14 [.tmp 4] Try.func25 rfl Try.ntmps25 Try.results25 rfl hw ?_
  repeat' ((conv => whnf); first
    | (show _ ∧ _; first | (obtain ⟨rfl, rfl⟩ := hx; refine ⟨rfl, ?_⟩) | (obtain ⟨b, rfl, rfl⟩ := hx; refine ⟨rfl, ?_⟩) | (obtain ⟨b, c, rfl, rfl⟩ := hx; refine ⟨rfl, ?_⟩) | (obtain ⟨rfl, rfl⟩ := hx; refine ⟨rfl, ?_⟩) | (obtain ⟨rfl, rfl⟩ := hx; refine ⟨rfl, ?_⟩) | (obtain ⟨b, rfl, rfl⟩ := hx; refine ⟨rfl, ?_⟩) | (obtain ⟨b, c, rfl, rfl⟩ := hx; refine ⟨rfl, ?_⟩))
    | (show gsplit _ _ _; first | refine gsplit.tt ?_ | refine gsplit.ff ?_ | refine gsplit.dpos (by omega) ?_ | refine gsplit.dneg (by omega) ?_ | refine gsplit.npos (by omega) ?_ | refine gsplit.nneg (by omega) ?_ | refine gsplit.dec (fun hc => ?_) (fun hc => ?_) | refine gsplit.ndec (fun hc => ?_) (fun hc => ?_) | refine gsplit.eq (fun hc => ?_) (fun hc => ?_) | refine gsplit.neq (fun hc => ?_) (fun hc => ?_))
    | (show YQ _ _ _ _ _ _; first | refine YQ.remN (by omega) ?_ | refine YQ.quoN (by omega) ?_ | refine YQ.len tabOk rfl ?_ | refine YQ.idx tabOk rfl (by omega) ?_ | refine YQ.idxA tabOk rfl (by omega) ?_ | refine YQ.sliceA tabOk rfl (by omega) (by omega) ?_ | refine YQ.sliceAll tabOk rfl ?_ | refine YQ.load1 tabOk rfl 0 rfl rfl ?_ | refine YQ.load1 tabOk rfl 1 rfl rfl ?_ | refine YQ.load1 tabOk rfl 2 rfl rfl ?_ | refine YQ.load1 tabOk rfl 3 rfl rfl ?_ | refine YQ.load1 tabOk rfl 4 rfl rfl ?_ | refine YQ.load1 tabOk rfl 5 rfl rfl ?_ | refine YQ.loadF tabOk rfl 0 rfl rfl ?_ | refine YQ.loadF tabOk rfl 1 rfl rfl ?_ | refine YQ.loadF tabOk rfl 2 rfl rfl ?_ | refine YQ.loadF tabOk rfl 3 rfl rfl ?_ | refine YQ.loadF tabOk rfl 4 rfl rfl ?_ | refine YQ.loadF tabOk rfl 5 rfl rfl ?_ | refine YQ.loadA tabOk rfl 0 rfl rfl rfl ?_ | refine YQ.loadA tabOk rfl 1 rfl rfl rfl ?_ | refine YQ.loadA tabOk rfl 2 rfl rfl rfl ?_ | refine YQ.loadA tabOk rfl 3 rfl rfl rfl ?_ | refine YQ.loadA tabOk rfl 4 rfl rfl rfl ?_ | refine YQ.build tabOk rfl rfl rfl ?_ | refine YQ.eqF tabOk rfl rfl rfl ?_ | refine YQ.neF tabOk rfl rfl rfl ?_)
    | (show YC _ _ _ _ _ _ _; first | refine YC.con [] [] rfl rfl (fun w _ _ => within_con _ _ _ w) (fun x L' hx => ?_))
    | (show YU _ _ _ _ _ _ _ _; first | refine YU.storeRow tabOk rfl 0 at_.toNat rfl lnV_len (by omega) (by omega) ln0 rfl rfl ?_ | refine YU.store1L tabOk rfl rfl 0 rfl rfl ?_ | refine YU.store1L tabOk rfl rfl 1 rfl rfl ?_ | refine YU.store1L tabOk rfl rfl 2 rfl rfl ?_ | refine YU.store1L tabOk rfl rfl 3 rfl rfl ?_ | refine YU.store1L tabOk rfl rfl 4 rfl rfl ?_ | refine YU.storeF tabOk rfl rfl rfl 0 rfl rfl ?_ | refine YU.storeF tabOk rfl rfl rfl 1 rfl rfl ?_ | refine YU.storeF tabOk rfl rfl rfl 2 rfl rfl ?_ | refine YU.storeF tabOk rfl rfl rfl 3 rfl rfl ?_ | refine YU.storeF tabOk rfl rfl rfl 4 rfl rfl ?_ | refine YU.storeF tabOk rfl rfl rfl 5 rfl rfl ?_ | refine YU.storeAL tabOk rfl rfl rfl 0 rfl rfl ?_ | refine YU.storeAL tabOk rfl rfl rfl 1 rfl rfl ?_ | refine YU.storeAL tabOk rfl rfl rfl 2 rfl rfl ?_ | refine YU.storeAL tabOk rfl rfl rfl 3 rfl rfl ?_ | refine YU.storeAL tabOk rfl rfl rfl 4 rfl rfl ?_)
    | (show Wr _ _ _; first | refine Wr.i64 (by omega) ?_ | refine Wr.u8 (by omega) ?_ | refine Wr.u16 (by omega) ?_ | refine Wr.u32 (by omega) ?_)
    | (show BIf _ _ _; first | refine BIf.pos rfl ?_ | refine BIf.neg rfl ?_)
    | (show Dr _ _ _ _ _ _ _ _ _; first | refine Dr.all (by kernel_rfl) ?_)
    | (show Vc.Fin _ _ _; first | refine Fin.take 1 (And.intro ?_ ?_))
    | intro b)
  · have e : evE at_ = 1 := if_neg hc
    rw [e]; rfl
  · have e : evL at_ ls = ls := if_neg hc
    rw [e]; rfl
  · have e : evE at_ = 0 := if_pos hc
    rw [e]; rfl
  · have e : evL at_ ls = ls.set at_.toNat ln0 := if_pos hc
    rw [e]; rfl
theorem lines_con : Con Try.prog 30 [.pointer (some ⟨p, 0, none⟩)] w [tlbE p ls f m] (fun y L' => ∃ b, y = .slice (some ⟨b, 0, none⟩) 8 8 ∧ L' = [tlbE p ls f m, ⟨b, 71, rows lnV ls⟩]) := by
  have hr : (rows lnV ls).length = 40 := by rw [rows_length lnV_len, hlen]
  refine Con.of_vc tabOk 9 [.tmp 2] Try.func30 rfl Try.ntmps30 Try.results30 rfl hw ?_
  repeat' ((conv => whnf); first
    | (show _ ∧ _; first | (obtain ⟨rfl, rfl⟩ := hx; refine ⟨rfl, ?_⟩) | (obtain ⟨b, rfl, rfl⟩ := hx; refine ⟨rfl, ?_⟩) | (obtain ⟨b, c, rfl, rfl⟩ := hx; refine ⟨rfl, ?_⟩))
    | (show gsplit _ _ _; first | refine gsplit.tt ?_ | refine gsplit.ff ?_ | refine gsplit.dpos (by omega) ?_ | refine gsplit.dneg (by omega) ?_ | refine gsplit.npos (by omega) ?_ | refine gsplit.nneg (by omega) ?_ | refine gsplit.dec (fun hc => ?_) (fun hc => ?_) | refine gsplit.ndec (fun hc => ?_) (fun hc => ?_) | refine gsplit.eq (fun hc => ?_) (fun hc => ?_) | refine gsplit.neq (fun hc => ?_) (fun hc => ?_))
    | (show YQ _ _ _ _ _ _; first | refine YQ.loadRows tabOk rfl 0 rfl lnV_len (by omega) ?_ | refine YQ.remN (by omega) ?_ | refine YQ.quoN (by omega) ?_ | refine YQ.len tabOk rfl ?_ | refine YQ.idx tabOk rfl (by omega) ?_ | refine YQ.idxA tabOk rfl (by omega) ?_ | refine YQ.sliceA tabOk rfl (by omega) (by omega) ?_ | refine YQ.sliceAll tabOk rfl ?_ | refine YQ.load1 tabOk rfl 0 rfl rfl ?_ | refine YQ.load1 tabOk rfl 1 rfl rfl ?_ | refine YQ.load1 tabOk rfl 2 rfl rfl ?_ | refine YQ.load1 tabOk rfl 3 rfl rfl ?_ | refine YQ.load1 tabOk rfl 4 rfl rfl ?_ | refine YQ.load1 tabOk rfl 5 rfl rfl ?_ | refine YQ.loadF tabOk rfl 0 rfl rfl ?_ | refine YQ.loadF tabOk rfl 1 rfl rfl ?_ | refine YQ.loadF tabOk rfl 2 rfl rfl ?_ | refine YQ.loadF tabOk rfl 3 rfl rfl ?_ | refine YQ.loadF tabOk rfl 4 rfl rfl ?_ | refine YQ.loadF tabOk rfl 5 rfl rfl ?_ | refine YQ.loadA tabOk rfl 0 rfl rfl rfl ?_ | refine YQ.loadA tabOk rfl 1 rfl rfl rfl ?_ | refine YQ.loadA tabOk rfl 2 rfl rfl rfl ?_ | refine YQ.loadA tabOk rfl 3 rfl rfl rfl ?_ | refine YQ.loadA tabOk rfl 4 rfl rfl rfl ?_ | refine YQ.build tabOk rfl rfl rfl ?_ | refine YQ.eqF tabOk rfl rfl rfl ?_ | refine YQ.neF tabOk rfl rfl rfl ?_)
    | (show YU _ _ _ _ _ _ _ _; first | refine YU.storeF tabOk rfl hr (rows_one lnV_one ls) 1 rfl rfl ?_ | refine YU.store1L tabOk rfl rfl 0 rfl rfl ?_ | refine YU.store1L tabOk rfl rfl 1 rfl rfl ?_ | refine YU.store1L tabOk rfl rfl 2 rfl rfl ?_ | refine YU.store1L tabOk rfl rfl 3 rfl rfl ?_ | refine YU.store1L tabOk rfl rfl 4 rfl rfl ?_ | refine YU.storeF tabOk rfl rfl rfl 0 rfl rfl ?_ | refine YU.storeF tabOk rfl rfl rfl 1 rfl rfl ?_ | refine YU.storeF tabOk rfl rfl rfl 2 rfl rfl ?_ | refine YU.storeF tabOk rfl rfl rfl 3 rfl rfl ?_ | refine YU.storeF tabOk rfl rfl rfl 4 rfl rfl ?_ | refine YU.storeF tabOk rfl rfl rfl 5 rfl rfl ?_ | refine YU.storeAL tabOk rfl rfl rfl 0 rfl rfl ?_ | refine YU.storeAL tabOk rfl rfl rfl 1 rfl rfl ?_ | refine YU.storeAL tabOk rfl rfl rfl 2 rfl rfl ?_ | refine YU.storeAL tabOk rfl rfl rfl 3 rfl rfl ?_ | refine YU.storeAL tabOk rfl rfl rfl 4 rfl rfl ?_)
    | (show Wr _ _ _; first | refine Wr.i64 (by omega) ?_ | refine Wr.u8 (by omega) ?_ | refine Wr.u16 (by omega) ?_ | refine Wr.u32 (by omega) ?_)
    | (show BIf _ _ _; first | refine BIf.pos rfl ?_ | refine BIf.neg rfl ?_)
    | (show Dr _ _ _ _ _ _ _ _ _; first | refine Dr.all (by kernel_rfl) ?_)
    | (show Vc.Fin _ _ _; first | refine Fin.take 2 ⟨_, rfl, rfl⟩)
    | intro b)
end
theorem new_con (w : World) : Con Try.prog 24 [] w [] (fun y L' => ∃ b, y = .pointer (some ⟨b, 0, none⟩) ∧ L' = [tlbE b (List.replicate 8 ln0) 0 0]) := by
  refine Con.of_vc tabOk 3 [.tmp 0] Try.func24 rfl Try.ntmps24 Try.results24 rfl (Own.nil' w) ?_
  repeat' ((conv => whnf); first
    | (show _ ∧ _; first | (obtain ⟨rfl, rfl⟩ := hx; refine ⟨rfl, ?_⟩) | (obtain ⟨b, rfl, rfl⟩ := hx; refine ⟨rfl, ?_⟩) | (obtain ⟨b, c, rfl, rfl⟩ := hx; refine ⟨rfl, ?_⟩))
    | (show gsplit _ _ _; first | refine gsplit.tt ?_ | refine gsplit.ff ?_ | refine gsplit.dpos (by omega) ?_ | refine gsplit.dneg (by omega) ?_ | refine gsplit.npos (by omega) ?_ | refine gsplit.nneg (by omega) ?_ | refine gsplit.dec (fun hc => ?_) (fun hc => ?_) | refine gsplit.ndec (fun hc => ?_) (fun hc => ?_) | refine gsplit.eq (fun hc => ?_) (fun hc => ?_) | refine gsplit.neq (fun hc => ?_) (fun hc => ?_))
    | (show YQ _ _ _ _ _ _; first | refine YQ.remN (by omega) ?_ | refine YQ.quoN (by omega) ?_ | refine YQ.len tabOk rfl ?_ | refine YQ.idx tabOk rfl (by omega) ?_ | refine YQ.idxA tabOk rfl (by omega) ?_ | refine YQ.sliceA tabOk rfl (by omega) (by omega) ?_ | refine YQ.sliceAll tabOk rfl ?_ | refine YQ.load1 tabOk rfl 0 rfl rfl ?_ | refine YQ.load1 tabOk rfl 1 rfl rfl ?_ | refine YQ.load1 tabOk rfl 2 rfl rfl ?_ | refine YQ.load1 tabOk rfl 3 rfl rfl ?_ | refine YQ.load1 tabOk rfl 4 rfl rfl ?_ | refine YQ.load1 tabOk rfl 5 rfl rfl ?_ | refine YQ.loadF tabOk rfl 0 rfl rfl ?_ | refine YQ.loadF tabOk rfl 1 rfl rfl ?_ | refine YQ.loadF tabOk rfl 2 rfl rfl ?_ | refine YQ.loadF tabOk rfl 3 rfl rfl ?_ | refine YQ.loadF tabOk rfl 4 rfl rfl ?_ | refine YQ.loadF tabOk rfl 5 rfl rfl ?_ | refine YQ.loadA tabOk rfl 0 rfl rfl rfl ?_ | refine YQ.loadA tabOk rfl 1 rfl rfl rfl ?_ | refine YQ.loadA tabOk rfl 2 rfl rfl rfl ?_ | refine YQ.loadA tabOk rfl 3 rfl rfl rfl ?_ | refine YQ.loadA tabOk rfl 4 rfl rfl rfl ?_ | refine YQ.build tabOk rfl rfl rfl ?_ | refine YQ.eqF tabOk rfl rfl rfl ?_ | refine YQ.neF tabOk rfl rfl rfl ?_)
    | (show YU _ _ _ _ _ _ _ _; first | refine YU.store1L tabOk rfl rfl 0 rfl rfl ?_ | refine YU.store1L tabOk rfl rfl 1 rfl rfl ?_ | refine YU.store1L tabOk rfl rfl 2 rfl rfl ?_ | refine YU.store1L tabOk rfl rfl 3 rfl rfl ?_ | refine YU.store1L tabOk rfl rfl 4 rfl rfl ?_ | refine YU.storeF tabOk rfl rfl rfl 0 rfl rfl ?_ | refine YU.storeF tabOk rfl rfl rfl 1 rfl rfl ?_ | refine YU.storeF tabOk rfl rfl rfl 2 rfl rfl ?_ | refine YU.storeF tabOk rfl rfl rfl 3 rfl rfl ?_ | refine YU.storeF tabOk rfl rfl rfl 4 rfl rfl ?_ | refine YU.storeF tabOk rfl rfl rfl 5 rfl rfl ?_ | refine YU.storeAL tabOk rfl rfl rfl 0 rfl rfl ?_ | refine YU.storeAL tabOk rfl rfl rfl 1 rfl rfl ?_ | refine YU.storeAL tabOk rfl rfl rfl 2 rfl rfl ?_ | refine YU.storeAL tabOk rfl rfl rfl 3 rfl rfl ?_ | refine YU.storeAL tabOk rfl rfl rfl 4 rfl rfl ?_)
    | (show Wr _ _ _; first | refine Wr.i64 (by omega) ?_ | refine Wr.u8 (by omega) ?_ | refine Wr.u16 (by omega) ?_ | refine Wr.u32 (by omega) ?_)
    | (show BIf _ _ _; first | refine BIf.pos rfl ?_ | refine BIf.neg rfl ?_)
    | (show Dr _ _ _ _ _ _ _ _ _; first | refine Dr.all (by kernel_rfl) ?_)
    | (show Vc.Fin _ _ _; first | refine Fin.take 1 ⟨_, rfl, rfl⟩)
    | intro b)
end Go.Proofs.Ytbohpchmofkllaa
