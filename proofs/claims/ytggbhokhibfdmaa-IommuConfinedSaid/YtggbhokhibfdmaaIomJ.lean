/- The program's controller and the document's, side by side. Conditions: none. -/
import Derived.Test.YtggbhokhibfdmaaIomP
import Derived.Test.YtggbhokhibfdmaaVq
set_option linter.unusedVariables false
set_option linter.unusedSimpArgs false
set_option linter.unusedSectionVars false
set_option maxRecDepth 10000
set_option maxHeartbeats 16000000
namespace Go.Proofs.Ytggbhokhibfdmaa
open Vc Mem
abbrev bothE (c p' p q j : Nat) : Ent := ⟨c, 37, [.pointer (some ⟨p', 0, none⟩), .pointer (some ⟨p, 0, none⟩), .pointer (some ⟨q, 0, none⟩), .pointer (some ⟨j, 0, none⟩)]⟩
theorem newF_eq (o : Option Fd) {k : Int} (hk : 0 ≤ k ∧ k ≤ 7) (B : List (Me Fd)) (c : Nat) : newF o k (BoL B) = BoL (newB o k B c) := by
  cases o with
  | none => rfl
  | some f => exact (BoL_set B hk f c).symm
theorem Ro_some {s : Js} (h : JI s) (st : Int) : ∀ r, mget s.R st = some r → 0 ≤ r ∧ r ≤ 1023 := by
  intro r hr
  obtain ⟨x, hx, h1, h2⟩ := mget_some hr
  have := h.rR x hx
  rw [h2] at this
  exact this.2
theorem dmaJ_bad {s : Js} {st ad : Int} {wr : Bool} {b : Int} (h : ¬ (isS st ∧ 0 ≤ ad ∧ ad ≤ 65535)) : dmaJ s st ad wr b = s ∧ dmaV s st ad wr b = 0 := by
  unfold dmaJ dmaV
  rw [if_neg h, if_neg h]
  exact ⟨rfl, rfl⟩
/-- An access by the program's controller. -/
theorem dma_con (p mr mb p' F : Nat) (s : Js) (h : JI s) (rc : Rc) (hok : rcOk rc) (hL : rcL rc = s.L) (st ad : Int) (wr : Bool) (b : Int) (hb : 0 ≤ b ∧ b ≤ 255) (w : World) (hw : Own w [iomE p mr mb (rcV rc) s.lost, maR mr s.rk s.R, maB mb s.bk s.B, ramE p' F 16, frE F s.X, rcE rc]) :
    Con Try.prog 15 [.pointer (some ⟨p, 0, none⟩), .pointer (some ⟨p', 0, none⟩), .int .i64 st, .int .i64 ad, .bool wr, .int .u8 b] w [iomE p mr mb (rcV rc) s.lost, maR mr s.rk s.R, maB mb s.bk s.B, ramE p' F 16, frE F s.X, rcE rc]
      (fun y L' => ∃ rc', (rcOk rc' ∧ rcL rc' = (dmaJ s st ad wr b).L) ∧ y = .tuple #[.int .u8 (dmaV s st ad wr b), .int .i64 (dmaE s st ad wr)] ∧
        L' = [iomE p mr mb (rcV rc') (dmaJ s st ad wr b).lost, maR mr (dmaJ s st ad wr b).rk (dmaJ s st ad wr b).R, maB mb (dmaJ s st ad wr b).bk (dmaJ s st ad wr b).B, ramE p' F 16, frE F (dmaJ s st ad wr b).X, rcE rc']) := by
  by_cases h1 : isS st
  · by_cases h2 : 0 ≤ ad ∧ ad ≤ 65535
    · have h8 : (rcL rc).length ≤ 8 := by rw [hL]; exact h.l8
      by_cases hk : (dmaG s st ad wr).k = 0
      · have ha := fnd_in h st ad wr h2 hk
        have eJ : dmaJ s st ad wr b = { s with B := newB (dmaG s st ad wr).new (ad / 64 % 8) s.B s.bk, bk := newC (dmaG s st ad wr).new (ad / 64 % 8) s.B s.bk, X := if wr = true then s.X.set ((dmaG s st ad wr).a * 64 + ad % 64).toNat b else s.X } := by unfold dmaJ; rw [if_pos ⟨h1, h2⟩, if_pos hk]
        have eE : dmaE s st ad wr = 0 := by unfold dmaE; rw [if_pos h1, if_pos h2, if_pos hk]
        have eV : dmaV s st ad wr b = if wr = true then b else gt s.X ((dmaG s st ad wr).a * 64 + ad % 64).toNat := by unfold dmaV; rw [if_pos ⟨h1, h2⟩, if_pos hk]
        rw [eE, eV, eJ]
        have hw5 : Own w [iomE p mr mb (rcV rc) s.lost, maR mr s.rk s.R, maB mb s.bk s.B, ramE p' F 16, frE F s.X] := hw.hp.sub (is := [0, 1, 2, 3, 4]) rfl rfl
        cases wr with
        | false =>
          refine (Con.frame [0, 1, 2, 3, 4] hw rfl (dma_read p mr mb s.lost s.rk s.bk s.R s.B p' F s.X h.by_ h.len st ad h1 h2 false b _ rfl rfl hk ha (rcV rc) w hw5) (by rintro v L' ⟨-, rfl⟩; exact Nat.le_refl _)).mono ?_
          rintro v L' ⟨Lc, ⟨rfl, rfl⟩, rfl⟩
          exact ⟨rc, ⟨hok, hL⟩, rfl, rfl⟩
        | true =>
          refine (Con.frame [0, 1, 2, 3, 4] hw rfl (dma_write p mr mb s.lost s.rk s.bk s.R s.B p' F s.X h.by_ h.len st ad h1 h2 true b _ rfl rfl hb hk ha (rcV rc) w hw5) (by rintro v L' ⟨-, rfl⟩; exact Nat.le_refl _)).mono ?_
          rintro v L' ⟨Lc, ⟨rfl, rfl⟩, rfl⟩
          exact ⟨rc, ⟨hok, hL⟩, rfl, rfl⟩
      · have eJ : dmaJ s st ad wr b = { s with B := newB (dmaG s st ad wr).new (ad / 64 % 8) s.B s.bk, bk := newC (dmaG s st ad wr).new (ad / 64 % 8) s.B s.bk, L := recL ⟨st, ad / 64, (dmaG s st ad wr).k, wr⟩ s.L, lost := recN s.L s.lost } := by unfold dmaJ; rw [if_pos ⟨h1, h2⟩, if_neg hk]
        have eE : dmaE s st ad wr = 101 := by unfold dmaE; rw [if_pos h1, if_pos h2, if_neg hk]
        have eV : dmaV s st ad wr b = 0 := by unfold dmaV; rw [if_pos ⟨h1, h2⟩, if_neg hk]
        rw [eE, eV, eJ]
        refine (dma_fault p mr mb rc s.lost s.rk s.bk s.R s.B p' F s.X h.by_ h.len st ad h1 h2 wr b _ rfl hok h8 hk w hw).mono ?_
        rintro v L' ⟨rc', ⟨h3, h4⟩, rfl, rfl⟩
        rw [hL] at h4 ⊢
        exact ⟨rc', ⟨h3, h4⟩, rfl, rfl⟩
    · obtain ⟨eJ, eV⟩ := dmaJ_bad (s := s) (st := st) (ad := ad) (wr := wr) (b := b) (fun hh => h2 hh.2)
      have eE : dmaE s st ad wr = 1 := by unfold dmaE; rw [if_pos h1, if_neg h2]
      rw [eJ, eV, eE]
      refine (Con.frame [] hw rfl (dma_b2 p p' st ad wr b h1 h2 w) (by intro v L' _; exact Nat.zero_le _)).mono ?_
      rintro v L' ⟨Lc, ⟨rfl, rfl⟩, rfl⟩
      exact ⟨rc, ⟨hok, hL⟩, rfl, rfl⟩
  · obtain ⟨eJ, eV⟩ := dmaJ_bad (s := s) (st := st) (ad := ad) (wr := wr) (b := b) (fun hh => h1 hh.1)
    have eE : dmaE s st ad wr = 100 := by unfold dmaE; rw [if_neg h1]
    rw [eJ, eV, eE]
    refine (Con.frame [] hw rfl (dma_b1 p p' st ad wr b h1 w) (by intro v L' _; exact Nat.zero_le _)).mono ?_
    rintro v L' ⟨Lc, ⟨rfl, rfl⟩, rfl⟩
    exact ⟨rc, ⟨hok, hL⟩, rfl, rfl⟩
/-- .. and by the document's. -/
theorem rdma_con (j q B2 : Nat) (s : Js) (h : JI s) (rz : Rz) (hok : rzOk rz) (hL : rzL rz = s.L) (st ad : Int) (wr : Bool) (b : Int) (hb : 0 ≤ b ∧ b ≤ 255) (w : World) (hw : Own w [iomR j (RoL s.R) (BoL s.B) (rzV rz) s.lost, refE q B2 16, byE B2 s.X, rzE rz]) :
    Con Try.prog 59 [.pointer (some ⟨j, 0, none⟩), .pointer (some ⟨q, 0, none⟩), .int .i64 st, .int .i64 ad, .bool wr, .int .u8 b] w [iomR j (RoL s.R) (BoL s.B) (rzV rz) s.lost, refE q B2 16, byE B2 s.X, rzE rz]
      (fun y L' => ∃ rz', (rzOk rz' ∧ rzL rz' = (dmaJ s st ad wr b).L) ∧ y = .tuple #[.int .u8 (dmaV s st ad wr b), .int .i64 (dmaE s st ad wr)] ∧
        L' = [iomR j (RoL (dmaJ s st ad wr b).R) (BoL (dmaJ s st ad wr b).B) (rzV rz') (dmaJ s st ad wr b).lost, refE q B2 16, byE B2 (dmaJ s st ad wr b).X, rzE rz']) := by
  by_cases h1 : isS st
  · by_cases h2 : 0 ≤ ad ∧ ad ≤ 65535
    · have h8 : (rzL rz).length ≤ 8 := by rw [hL]; exact h.l8
      have hp : 0 ≤ ad / 64 % 8 ∧ ad / 64 % 8 ≤ 7 := by omega
      have hBo := BoL_at s.B hp
      have hRo := RoL_at s.R h1
      have hN := fun o => newF_eq o hp s.B s.bk
      by_cases hk : (dmaG s st ad wr).k = 0
      · have ha := fnd_in h st ad wr h2 hk
        have eJ : dmaJ s st ad wr b = { s with B := newB (dmaG s st ad wr).new (ad / 64 % 8) s.B s.bk, bk := newC (dmaG s st ad wr).new (ad / 64 % 8) s.B s.bk, X := if wr = true then s.X.set ((dmaG s st ad wr).a * 64 + ad % 64).toNat b else s.X } := by unfold dmaJ; rw [if_pos ⟨h1, h2⟩, if_pos hk]
        have eE : dmaE s st ad wr = 0 := by unfold dmaE; rw [if_pos h1, if_pos h2, if_pos hk]
        have eV : dmaV s st ad wr b = if wr = true then b else gt s.X ((dmaG s st ad wr).a * 64 + ad % 64).toNat := by unfold dmaV; rw [if_pos ⟨h1, h2⟩, if_pos hk]
        rw [eE, eV, eJ]
        have hw3 : Own w [iomR j (RoL s.R) (BoL s.B) (rzV rz) s.lost, refE q B2 16, byE B2 s.X] := hw.hp.sub (is := [0, 1, 2]) rfl rfl
        cases wr with
        | false =>
          refine (Con.frame [0, 1, 2] hw rfl (rdma_read j (RoL s.R) (BoL s.B) (RoL_len _) (BoL_len _) s.lost q B2 s.X h.by_ h.len st ad h1 h2 false b _ _ (Ro_some h st) hBo hRo _ rfl rfl hk ha (rzV rz) w hw3) (by rintro v L' ⟨-, rfl⟩; exact Nat.le_refl _)).mono ?_
          rintro v L' ⟨Lc, ⟨rfl, rfl⟩, rfl⟩
          rw [hN]
          exact ⟨rz, ⟨hok, hL⟩, rfl, rfl⟩
        | true =>
          refine (Con.frame [0, 1, 2] hw rfl (rdma_write j (RoL s.R) (BoL s.B) (RoL_len _) (BoL_len _) s.lost q B2 s.X h.by_ h.len st ad h1 h2 true b _ _ (Ro_some h st) hBo hRo _ rfl rfl hb hk ha (rzV rz) w hw3) (by rintro v L' ⟨-, rfl⟩; exact Nat.le_refl _)).mono ?_
          rintro v L' ⟨Lc, ⟨rfl, rfl⟩, rfl⟩
          rw [hN]
          exact ⟨rz, ⟨hok, hL⟩, rfl, rfl⟩
      · have eJ : dmaJ s st ad wr b = { s with B := newB (dmaG s st ad wr).new (ad / 64 % 8) s.B s.bk, bk := newC (dmaG s st ad wr).new (ad / 64 % 8) s.B s.bk, L := recL ⟨st, ad / 64, (dmaG s st ad wr).k, wr⟩ s.L, lost := recN s.L s.lost } := by unfold dmaJ; rw [if_pos ⟨h1, h2⟩, if_neg hk]
        have eE : dmaE s st ad wr = 101 := by unfold dmaE; rw [if_pos h1, if_pos h2, if_neg hk]
        have eV : dmaV s st ad wr b = 0 := by unfold dmaV; rw [if_pos ⟨h1, h2⟩, if_neg hk]
        rw [eE, eV, eJ]
        refine (rdma_fault j (RoL s.R) (BoL s.B) (RoL_len _) (BoL_len _) rz s.lost q B2 s.X h.by_ h.len st ad h1 h2 wr b _ _ (Ro_some h st) hBo hRo _ rfl hok h8 hk w hw).mono ?_
        rintro v L' ⟨rz', ⟨h3, h4⟩, rfl, rfl⟩
        rw [hL] at h4 ⊢
        rw [hN]
        exact ⟨rz', ⟨h3, h4⟩, rfl, rfl⟩
    · obtain ⟨eJ, eV⟩ := dmaJ_bad (s := s) (st := st) (ad := ad) (wr := wr) (b := b) (fun hh => h2 hh.2)
      have eE : dmaE s st ad wr = 1 := by unfold dmaE; rw [if_pos h1, if_neg h2]
      rw [eJ, eV, eE]
      refine (Con.frame [] hw rfl (rdma_b2 j q st ad wr b h1 h2 w) (by intro v L' _; exact Nat.zero_le _)).mono ?_
      rintro v L' ⟨Lc, ⟨rfl, rfl⟩, rfl⟩
      exact ⟨rz, ⟨hok, hL⟩, rfl, rfl⟩
  · obtain ⟨eJ, eV⟩ := dmaJ_bad (s := s) (st := st) (ad := ad) (wr := wr) (b := b) (fun hh => h1 hh.1)
    have eE : dmaE s st ad wr = 100 := by unfold dmaE; rw [if_neg h1]
    rw [eJ, eV, eE]
    refine (Con.frame [] hw rfl (rdma_b1 j q st ad wr b h1 w) (by intro v L' _; exact Nat.zero_le _)).mono ?_
    rintro v L' ⟨Lc, ⟨rfl, rfl⟩, rfl⟩
    exact ⟨rz, ⟨hok, hL⟩, rfl, rfl⟩
/-! entries that are laid -/
structure Pd where
  t : Int
  i : Int
  x : Et
def pdV (u : Pd) : List Value := [.int .i64 u.t, .int .i64 u.i, .bool u.x.v, .bool u.x.l, .int .i64 u.x.r, .int .i64 u.x.f]
theorem pdV_len (u : Pd) : (pdV u).length = 6 := rfl
theorem put10_con (c p' F p q B2 j : Nat) (X : List Int) (hl : X.length = 16 * 64) (t i : Int) (x : Et) (w : World) (hw : Own w [bothE c p' p q j, ramE p' F 16, frE F X, refE q B2 16, byE B2 X]) :
    Con Try.prog 44 [.pointer (some ⟨c, 0, none⟩), .agg #[.int .i64 t, .int .i64 i, .bool x.v, .bool x.l, .int .i64 x.r, .int .i64 x.f]] w [bothE c p' p q j, ramE p' F 16, frE F X, refE q B2 16, byE B2 X]
      (fun y L' => y = .tuple #[] ∧ L' = [bothE c p' p q j, ramE p' F 16, frE F (putL 16 X t i x), refE q B2 16, byE B2 (putL 16 X t i x)]) := by
  refine Con.of_vc tabOk 26 [] Try.func44 rfl Try.ntmps44 Try.results44 rfl hw ?_
  repeat' ((conv => whnf); first
    | (show _ ∧ _; first | (obtain ⟨rfl, rfl⟩ := hx; refine ⟨rfl, ?_⟩) | (obtain ⟨b, rfl, rfl⟩ := hx; refine ⟨rfl, ?_⟩) | (obtain ⟨b, c, rfl, rfl⟩ := hx; refine ⟨rfl, ?_⟩))
    | (show gsplit _ _ _; first | refine gsplit.tt ?_ | refine gsplit.ff ?_ | refine gsplit.dpos (by omega) ?_ | refine gsplit.dneg (by omega) ?_ | refine gsplit.npos (by omega) ?_ | refine gsplit.nneg (by omega) ?_ | refine gsplit.dec (fun hc => ?_) (fun hc => ?_) | refine gsplit.ndec (fun hc => ?_) (fun hc => ?_) | refine gsplit.eq (fun hc => ?_) (fun hc => ?_) | refine gsplit.neq (fun hc => ?_) (fun hc => ?_) | refine gsplit.mk (fun hb => ?_) (fun hb => ?_))
    | (show YQ _ _ _ _ _ _; first | refine YQ.remN (by omega) ?_ | refine YQ.quoN (by omega) ?_ | refine YQ.len tabOk rfl ?_ | refine YQ.idx tabOk rfl (by omega) ?_ | refine YQ.idxA tabOk rfl (by omega) ?_ | refine YQ.sliceA tabOk rfl (by omega) (by omega) ?_ | refine YQ.sliceAll tabOk rfl ?_ | refine YQ.load1 tabOk rfl 0 rfl rfl ?_ | refine YQ.load1 tabOk rfl 1 rfl rfl ?_ | refine YQ.load1 tabOk rfl 2 rfl rfl ?_ | refine YQ.load1 tabOk rfl 3 rfl rfl ?_ | refine YQ.load1 tabOk rfl 4 rfl rfl ?_ | refine YQ.load1 tabOk rfl 5 rfl rfl ?_ | refine YQ.load1 tabOk rfl 6 rfl rfl ?_ | refine YQ.load1 tabOk rfl 7 rfl rfl ?_ | refine YQ.load1 tabOk rfl 8 rfl rfl ?_ | refine YQ.load1 tabOk rfl 9 rfl rfl ?_ | refine YQ.load1 tabOk rfl 10 rfl rfl ?_ | refine YQ.load1 tabOk rfl 11 rfl rfl ?_ | refine YQ.load1 tabOk rfl 12 rfl rfl ?_ | refine YQ.loadF tabOk rfl 0 rfl rfl ?_ | refine YQ.loadF tabOk rfl 1 rfl rfl ?_ | refine YQ.loadF tabOk rfl 2 rfl rfl ?_ | refine YQ.loadF tabOk rfl 3 rfl rfl ?_ | refine YQ.loadF tabOk rfl 4 rfl rfl ?_ | refine YQ.loadF tabOk rfl 5 rfl rfl ?_ | refine YQ.loadF tabOk rfl 6 rfl rfl ?_ | refine YQ.loadF tabOk rfl 7 rfl rfl ?_ | refine YQ.loadF tabOk rfl 8 rfl rfl ?_ | refine YQ.loadF tabOk rfl 9 rfl rfl ?_ | refine YQ.loadF tabOk rfl 10 rfl rfl ?_ | refine YQ.loadF tabOk rfl 11 rfl rfl ?_ | refine YQ.loadF tabOk rfl 12 rfl rfl ?_ | refine YQ.loadA tabOk rfl 0 rfl rfl rfl ?_ | refine YQ.loadA tabOk rfl 1 rfl rfl rfl ?_ | refine YQ.loadA tabOk rfl 2 rfl rfl rfl ?_ | refine YQ.loadA tabOk rfl 3 rfl rfl rfl ?_ | refine YQ.loadA tabOk rfl 4 rfl rfl rfl ?_ | refine YQ.loadA tabOk rfl 5 rfl rfl rfl ?_ | refine YQ.loadA tabOk rfl 6 rfl rfl rfl ?_ | refine YQ.loadA tabOk rfl 7 rfl rfl rfl ?_ | refine YQ.loadA tabOk rfl 8 rfl rfl rfl ?_ | refine YQ.loadA tabOk rfl 9 rfl rfl rfl ?_ | refine YQ.loadA tabOk rfl 10 rfl rfl rfl ?_ | refine YQ.loadA tabOk rfl 11 rfl rfl rfl ?_ | refine YQ.loadA tabOk rfl 12 rfl rfl rfl ?_ | refine YQ.build tabOk rfl rfl rfl ?_ | refine YQ.eqF tabOk rfl rfl rfl ?_ | refine YQ.neF tabOk rfl rfl rfl ?_)
    | (show YC _ _ _ _ _ _ _; first | refine YC.conR [1, 2] _ rfl rfl (fun w hw0 hw => put_con p' F 16 (by omega) X hl t i x w hw) (fun x L' hx => ?_) | refine YC.conR [3, 4] _ rfl rfl (fun w hw0 hw => rput_con q B2 16 (by omega) X hl t i x w hw) (fun x L' hx => ?_))
    | (show YU _ _ _ _ _ _ _ _; first | refine YU.store1L tabOk rfl rfl 0 rfl rfl ?_ | refine YU.store1L tabOk rfl rfl 1 rfl rfl ?_ | refine YU.store1L tabOk rfl rfl 2 rfl rfl ?_ | refine YU.store1L tabOk rfl rfl 3 rfl rfl ?_ | refine YU.store1L tabOk rfl rfl 4 rfl rfl ?_ | refine YU.store1L tabOk rfl rfl 5 rfl rfl ?_ | refine YU.store1L tabOk rfl rfl 6 rfl rfl ?_ | refine YU.store1L tabOk rfl rfl 7 rfl rfl ?_ | refine YU.store1L tabOk rfl rfl 8 rfl rfl ?_ | refine YU.store1L tabOk rfl rfl 9 rfl rfl ?_ | refine YU.store1L tabOk rfl rfl 10 rfl rfl ?_ | refine YU.store1L tabOk rfl rfl 11 rfl rfl ?_ | refine YU.store1L tabOk rfl rfl 12 rfl rfl ?_ | refine YU.storeF tabOk rfl rfl rfl 0 rfl rfl ?_ | refine YU.storeF tabOk rfl rfl rfl 1 rfl rfl ?_ | refine YU.storeF tabOk rfl rfl rfl 2 rfl rfl ?_ | refine YU.storeF tabOk rfl rfl rfl 3 rfl rfl ?_ | refine YU.storeF tabOk rfl rfl rfl 4 rfl rfl ?_ | refine YU.storeF tabOk rfl rfl rfl 5 rfl rfl ?_ | refine YU.storeF tabOk rfl rfl rfl 6 rfl rfl ?_ | refine YU.storeF tabOk rfl rfl rfl 7 rfl rfl ?_ | refine YU.storeF tabOk rfl rfl rfl 8 rfl rfl ?_ | refine YU.storeF tabOk rfl rfl rfl 9 rfl rfl ?_ | refine YU.storeF tabOk rfl rfl rfl 10 rfl rfl ?_ | refine YU.storeF tabOk rfl rfl rfl 11 rfl rfl ?_ | refine YU.storeF tabOk rfl rfl rfl 12 rfl rfl ?_ | refine YU.storeAL tabOk rfl rfl rfl 0 rfl rfl ?_ | refine YU.storeAL tabOk rfl rfl rfl 1 rfl rfl ?_ | refine YU.storeAL tabOk rfl rfl rfl 2 rfl rfl ?_ | refine YU.storeAL tabOk rfl rfl rfl 3 rfl rfl ?_ | refine YU.storeAL tabOk rfl rfl rfl 4 rfl rfl ?_ | refine YU.storeAL tabOk rfl rfl rfl 5 rfl rfl ?_ | refine YU.storeAL tabOk rfl rfl rfl 6 rfl rfl ?_ | refine YU.storeAL tabOk rfl rfl rfl 7 rfl rfl ?_ | refine YU.storeAL tabOk rfl rfl rfl 8 rfl rfl ?_ | refine YU.storeAL tabOk rfl rfl rfl 9 rfl rfl ?_ | refine YU.storeAL tabOk rfl rfl rfl 10 rfl rfl ?_ | refine YU.storeAL tabOk rfl rfl rfl 11 rfl rfl ?_ | refine YU.storeAL tabOk rfl rfl rfl 12 rfl rfl ?_)
    | (show Wr _ _ _; first | refine Wr.i64 (by omega) ?_ | refine Wr.u8 (by omega) ?_ | refine Wr.u16 (by omega) ?_ | refine Wr.u32 (by omega) ?_)
    | (show BIf _ _ _; first | refine BIf.pos rfl ?_ | refine BIf.neg rfl ?_)
    | (show Dr _ _ _ _ _ _ _ _ _; first | (show Dr _ _ _ _ _ (Array.toList #[⟨some 4, _, _, _, _, _⟩, _, _, _, _, _, _, _, _, _, _]) _ _ _; refine Dr.mp 10 (.one 10 .done) (by kernel_rfl) ?_) | (show Dr _ _ _ _ _ (Array.toList #[⟨some 15, _, _, _, _, _⟩, _, _, _, _, _, _, _, _, _, _]) _ _ _; refine Dr.mp 10 (.one 10 .done) (by kernel_rfl) ?_) | refine Dr.all (by kernel_rfl) ?_)
    | (show Fork _ _; first | refine Fork.mk ?_ ?_)
    | (show Vc.Fin _ _ _; first | refine Fin.take 5 ⟨rfl, rfl⟩)
    | intro b)
end Go.Proofs.Ytggbhokhibfdmaa
