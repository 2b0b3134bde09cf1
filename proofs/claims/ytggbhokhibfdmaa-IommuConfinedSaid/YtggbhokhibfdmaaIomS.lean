/- Two controllers stand alike; the chapter's examples come out. Conditions: none. -/
import Derived.Test.YtggbhokhibfdmaaIomL
set_option linter.unusedVariables false
set_option linter.unusedSimpArgs false
set_option linter.unusedSectionVars false
set_option maxRecDepth 10000
set_option maxHeartbeats 16000000
namespace Go.Proofs.Ytggbhokhibfdmaa
open Vc Mem
def pg1 (x : Rd4) : Rd4 := ⟨x.s, -1, x.k, x.w⟩
def pgk (l : List Rd4) (i : Nat) : List Rd4 := (l.take i).map pg1 ++ l.drop i
theorem pgk_at (l : List Rd4) (i : Nat) (h : i < l.length) : (pgk l i)[i]? = some l[i] := by
  unfold pgk
  rw [List.getElem?_append_right (by simp; omega)]
  simp [Nat.min_eq_left (Nat.le_of_lt h), List.getElem?_eq_getElem h]
theorem pgk_set (l : List Rd4) (i : Nat) (h : i < l.length) : (pgk l i).set i (pg1 l[i]) = pgk l (i + 1) := by
  unfold pgk
  rw [List.take_succ_eq_append_getElem h, List.map_append, List.map_cons, List.map_nil, List.drop_eq_getElem_cons h]
  rw [List.set_append_right _ _ (by simp; omega)]
  rw [List.length_map, List.length_take, Nat.min_eq_left (Nat.le_of_lt h), Nat.sub_self, List.set_cons_zero, List.append_assoc]
  rfl
theorem neB_rd (x : Rd4) : (!eqB (rdV x) (rdV x)) = false := by rw [eqB_rd]; rfl
theorem root_eq {R : List (Me Int)} (h : ∀ x, x ∈ R → isS x.k ∧ 0 ≤ x.v ∧ x.v ≤ 1023) (k : Int) : (if isS k then (RoL R).getD k.toNat 0 - 1 else -1) = (mget R k).getD (-1) := by
  by_cases hk : isS k
  · rw [if_pos hk, List.getD_eq_getElem?_getD, RoL_at R hk]
    cases mget R k with
    | none => rfl
    | some v => show v + 1 - 1 = v; omega
  · rw [if_neg hk]
    cases hg : mget R k with
    | none => rfl
    | some v =>
      obtain ⟨x, hx, h1, -⟩ := mget_some hg
      exact absurd (h1 ▸ (h x hx).1) hk
theorem same64 (xs ys : List Int) (hx : xs.length = 64) (hy : ys.length = 64) (a b : Option Addr) (ca cb : Nat) (w : World) (ha : Arr w 1 u8V a xs) (hb : Arr w 1 u8V b ys) : Con Try.prog 70 [.slice a 64 ca, .slice b 64 cb] w []
    (fun y L' => y = .bool (decide (xs = ys)) ∧ L' = []) := by
  have := same_bytes xs ys (by omega) a b ca cb w ha hb
  rwa [hx, hy] at this
theorem same10_con (c p' F p mr mb q B2 j : Nat) (s : Js) (h : JI s) (rc : Rc) (rz : Rz) (hI : bothOk s rc rz) (d : Ent) (w : World) (hw : Own w (hsJ c p' F p mr mb q B2 j s rc rz ++ [d])) :
    Con Try.prog 23 [.pointer (some ⟨c, 0, none⟩)] w (hsJ c p' F p mr mb q B2 j s rc rz ++ [d])
      (fun y L' => ∃ d', y = .bool true ∧ L' = hsJ c p' F p mr mb q B2 j s rc rz ++ [d']) := by
  have h8 : (rcL rc).length ≤ 8 := by rw [hI.1.2]; exact h.l8
  have a1 := hI.1.2
  have a2 := hI.2.2
  obtain ⟨L, hL⟩ : ∃ L, s.L = L := ⟨_, rfl⟩
  rw [hL] at a1 a2
  have h9 : L.length ≤ 8 := a1 ▸ h8
  have hr := root_eq h.rR
  have hx0 := h.by_
  have hl := h.len
  have hrr := RoL_range h.rR
  have q1 : (rows rtV (RoL s.R)).length = 16 := by rw [rows_length rtV_len, RoL_len]
  have q2 := BoL_len s.B
  rcases rz with e | ⟨b2, l2, sl2, cap2⟩
  all_goals
    dsimp only [rzL] at a2
    subst a2
    refine Con.of_vc tabOk 118 [.tmp 2] Try.func23 rfl Try.ntmps23 Try.results23 rfl hw ?_
    repeat' ((conv => whnf); first
      | (show _ ∧ _; first | (simp only [hr] at hx) | (obtain ⟨rfl, rfl⟩ := hx; refine ⟨rfl, ?_⟩) | (obtain ⟨b, rfl, rfl⟩ := hx; refine ⟨rfl, ?_⟩) | (obtain ⟨b, c, rfl, rfl⟩ := hx; refine ⟨rfl, ?_⟩) | (obtain ⟨b, c, sl, hc64, rfl, rfl⟩ := hx; refine ⟨rfl, ?_⟩) | (obtain ⟨rfl, rfl⟩ := hx; refine ⟨rfl, ?_⟩) | (obtain ⟨b, rfl, rfl⟩ := hx; refine ⟨rfl, ?_⟩) | (obtain ⟨b, c, rfl, rfl⟩ := hx; refine ⟨rfl, ?_⟩))
      | (show gsplit _ _ _; first | refine gsplit.neg (neB_rd _) ?_ | refine gsplit.tt ?_ | refine gsplit.ff ?_ | refine gsplit.dpos (by omega) ?_ | refine gsplit.dneg (by omega) ?_ | refine gsplit.npos (by omega) ?_ | refine gsplit.nneg (by omega) ?_ | refine gsplit.dec (fun hc => ?_) (fun hc => ?_) | refine gsplit.ndec (fun hc => ?_) (fun hc => ?_) | refine gsplit.eq (fun hc => ?_) (fun hc => ?_) | refine gsplit.neq (fun hc => ?_) (fun hc => ?_) | refine gsplit.mk (fun hb => ?_) (fun hb => ?_))
      | (show YQ _ _ _ _ _ _; first | refine YQ.loadTP tabOk rfl 9 rfl foV_len 0 (by omega) rfl ?_ | refine YQ.loadTP tabOk rfl 9 rfl foV_len 1 (by omega) rfl ?_ | refine YQ.loadRow tabOk rfl 11 i rfl rdV_len (pgk_at l1 i (by omega)) (by omega) ?_ | refine YQ.loadRow tabOk rfl 10 i rfl rdV_len (List.getElem?_eq_getElem (by omega)) (by omega) ?_ | refine YQ.remN (by omega) ?_ | refine YQ.quoN (by omega) ?_ | refine YQ.len tabOk rfl ?_ | refine YQ.idx tabOk rfl (by omega) ?_ | refine YQ.idxA tabOk rfl (by omega) ?_ | refine YQ.sliceA tabOk rfl (by omega) (by omega) ?_ | refine YQ.sliceAll tabOk rfl ?_ | refine YQ.load1 tabOk rfl 0 rfl rfl ?_ | refine YQ.load1 tabOk rfl 1 rfl rfl ?_ | refine YQ.load1 tabOk rfl 2 rfl rfl ?_ | refine YQ.load1 tabOk rfl 3 rfl rfl ?_ | refine YQ.load1 tabOk rfl 4 rfl rfl ?_ | refine YQ.load1 tabOk rfl 5 rfl rfl ?_ | refine YQ.load1 tabOk rfl 6 rfl rfl ?_ | refine YQ.load1 tabOk rfl 7 rfl rfl ?_ | refine YQ.load1 tabOk rfl 8 rfl rfl ?_ | refine YQ.load1 tabOk rfl 9 rfl rfl ?_ | refine YQ.load1 tabOk rfl 10 rfl rfl ?_ | refine YQ.load1 tabOk rfl 11 rfl rfl ?_ | refine YQ.load1 tabOk rfl 12 rfl rfl ?_ | refine YQ.loadF tabOk rfl 0 rfl rfl ?_ | refine YQ.loadF tabOk rfl 1 rfl rfl ?_ | refine YQ.loadF tabOk rfl 2 rfl rfl ?_ | refine YQ.loadF tabOk rfl 3 rfl rfl ?_ | refine YQ.loadF tabOk rfl 4 rfl rfl ?_ | refine YQ.loadF tabOk rfl 5 rfl rfl ?_ | refine YQ.loadF tabOk rfl 6 rfl rfl ?_ | refine YQ.loadF tabOk rfl 7 rfl rfl ?_ | refine YQ.loadF tabOk rfl 8 rfl rfl ?_ | refine YQ.loadF tabOk rfl 9 rfl rfl ?_ | refine YQ.loadF tabOk rfl 10 rfl rfl ?_ | refine YQ.loadF tabOk rfl 11 rfl rfl ?_ | refine YQ.loadF tabOk rfl 12 rfl rfl ?_ | refine YQ.loadA tabOk rfl 0 rfl rfl rfl ?_ | refine YQ.loadA tabOk rfl 1 rfl rfl rfl ?_ | refine YQ.loadA tabOk rfl 2 rfl rfl rfl ?_ | refine YQ.loadA tabOk rfl 3 rfl rfl rfl ?_ | refine YQ.loadA tabOk rfl 4 rfl rfl rfl ?_ | refine YQ.loadA tabOk rfl 5 rfl rfl rfl ?_ | refine YQ.loadA tabOk rfl 6 rfl rfl rfl ?_ | refine YQ.loadA tabOk rfl 7 rfl rfl rfl ?_ | refine YQ.loadA tabOk rfl 8 rfl rfl rfl ?_ | refine YQ.loadA tabOk rfl 9 rfl rfl rfl ?_ | refine YQ.loadA tabOk rfl 10 rfl rfl rfl ?_ | refine YQ.loadA tabOk rfl 11 rfl rfl rfl ?_ | refine YQ.loadA tabOk rfl 12 rfl rfl rfl ?_ | refine YQ.build tabOk rfl rfl rfl ?_ | refine YQ.eqF tabOk rfl rfl rfl ?_ | refine YQ.neF tabOk rfl rfl rfl ?_)
      | (show YC _ _ _ _ _ _ _; first | (refine YC.conR [3, 6, 11] _ rfl rfl (fun w hw0 hw => records_con p mr mb rc h8 s.lost d w hw) (fun x L' hx => ?_); obtain ⟨rz', ⟨g1, g2⟩, rfl, rfl⟩ := hx; refine ⟨rfl, ?_⟩; rcases rz' with d' | ⟨b1, l1, sl1, cap1⟩ <;> (have g3 := g2.trans a1; dsimp only [rzL] at g3; try subst g3)) | refine YC.conR [3] _ rfl rfl (fun w hw0 hw => lost_con p mr mb (rcV rc) s.lost w hw) (fun x L' hx => ?_) | refine YC.conR [3, 4] _ rfl rfl (fun w hw0 hw => root_con p mr mb (rcV rc) s.lost s.rk s.R _ w hw) (fun x L' hx => ?_) | refine YC.conR [9] _ rfl rfl (fun w hw0 hw => rroot_con j (RoL s.R) (BoL s.B) (RoL_len _) (BoL_len _) _ s.lost _ hrr w hw) (fun x L' hx => ?_) | refine YC.conR [1, 2] _ rfl rfl (fun w hw0 hw => frame_ok p' F 16 (by omega) s.X hl m (by unfold thereP; omega) w hw) (fun x L' hx => ?_) | refine YC.conR [7, 8] _ rfl rfl (fun w hw0 hw => rframe_ok q B2 16 (by omega) s.X hl m (by unfold thereP; omega) w hw) (fun x L' hx => ?_) | refine YC.conR [] [] rfl rfl (fun w hw0 _ => same64 _ _ (frm_length hl (k := m) (by omega)) (frm_length hl (k := m) (by omega)) _ _ _ _ w (hw0.bytes 12 rfl) (hw0.arr (ls := frm s.X m) (tl := sl) (fun _ => rfl) 13 (by rw [rows_u8]; rfl))) (fun x L' hx => ?_))
      | (show YU _ _ _ _ _ _ _ _; first | refine YU.storeRc tabOk rfl rfl 11 i rfl rdV_len (pgk_at l1 i (by omega)) 1 (by omega) (by omega) (pg1 (l1[i]'(by omega))) rfl ?_ | refine YU.store1L tabOk rfl rfl 0 rfl rfl ?_ | refine YU.store1L tabOk rfl rfl 1 rfl rfl ?_ | refine YU.store1L tabOk rfl rfl 2 rfl rfl ?_ | refine YU.store1L tabOk rfl rfl 3 rfl rfl ?_ | refine YU.store1L tabOk rfl rfl 4 rfl rfl ?_ | refine YU.store1L tabOk rfl rfl 5 rfl rfl ?_ | refine YU.store1L tabOk rfl rfl 6 rfl rfl ?_ | refine YU.store1L tabOk rfl rfl 7 rfl rfl ?_ | refine YU.store1L tabOk rfl rfl 8 rfl rfl ?_ | refine YU.store1L tabOk rfl rfl 9 rfl rfl ?_ | refine YU.store1L tabOk rfl rfl 10 rfl rfl ?_ | refine YU.store1L tabOk rfl rfl 11 rfl rfl ?_ | refine YU.store1L tabOk rfl rfl 12 rfl rfl ?_ | refine YU.storeF tabOk rfl rfl rfl 0 rfl rfl ?_ | refine YU.storeF tabOk rfl rfl rfl 1 rfl rfl ?_ | refine YU.storeF tabOk rfl rfl rfl 2 rfl rfl ?_ | refine YU.storeF tabOk rfl rfl rfl 3 rfl rfl ?_ | refine YU.storeF tabOk rfl rfl rfl 4 rfl rfl ?_ | refine YU.storeF tabOk rfl rfl rfl 5 rfl rfl ?_ | refine YU.storeF tabOk rfl rfl rfl 6 rfl rfl ?_ | refine YU.storeF tabOk rfl rfl rfl 7 rfl rfl ?_ | refine YU.storeF tabOk rfl rfl rfl 8 rfl rfl ?_ | refine YU.storeF tabOk rfl rfl rfl 9 rfl rfl ?_ | refine YU.storeF tabOk rfl rfl rfl 10 rfl rfl ?_ | refine YU.storeF tabOk rfl rfl rfl 11 rfl rfl ?_ | refine YU.storeF tabOk rfl rfl rfl 12 rfl rfl ?_ | refine YU.storeAL tabOk rfl rfl rfl 0 rfl rfl ?_ | refine YU.storeAL tabOk rfl rfl rfl 1 rfl rfl ?_ | refine YU.storeAL tabOk rfl rfl rfl 2 rfl rfl ?_ | refine YU.storeAL tabOk rfl rfl rfl 3 rfl rfl ?_ | refine YU.storeAL tabOk rfl rfl rfl 4 rfl rfl ?_ | refine YU.storeAL tabOk rfl rfl rfl 5 rfl rfl ?_ | refine YU.storeAL tabOk rfl rfl rfl 6 rfl rfl ?_ | refine YU.storeAL tabOk rfl rfl rfl 7 rfl rfl ?_ | refine YU.storeAL tabOk rfl rfl rfl 8 rfl rfl ?_ | refine YU.storeAL tabOk rfl rfl rfl 9 rfl rfl ?_ | refine YU.storeAL tabOk rfl rfl rfl 10 rfl rfl ?_ | refine YU.storeAL tabOk rfl rfl rfl 11 rfl rfl ?_ | refine YU.storeAL tabOk rfl rfl rfl 12 rfl rfl ?_)
      | (show Wr _ _ _; first | refine Wr.i64 (by omega) ?_ | refine Wr.u8 (by omega) ?_ | refine Wr.u16 (by omega) ?_ | refine Wr.u32 (by omega) ?_)
      | (show BIf _ _ _; first | refine BIf.pos rfl ?_ | refine BIf.neg rfl ?_)
      | (show Lp _ _ _ _ _; first | refine Lp.mk (α := Nat) [5] [0, 3] _ (fun i => [.int .i64 i]) (fun i => [bothE c p' p q j, ramE p' F 16, frE F s.X, iomE p mr mb (rcV rc) s.lost, maR mr s.rk s.R, maB mb s.bk s.B, rcE rc, refE q B2 16, byE B2 s.X, iomR j (RoL s.R) (BoL s.B) (rzV (.at_ b2 l1 sl2 cap2)) s.lost, rzE (.at_ b2 l1 sl2 cap2), ⟨b1, recT, rows rdV (pgk l1 i) ++ sl1⟩]) (fun i => i ≤ l1.length) (fun i => l1.length - i) rfl rfl 0 (by omega) rfl ⟨_, rfl⟩ (fun i hi => ?_) | refine Lp.subK (α := Nat) [6] [0] _ (fun k => [.int .i64 ((k : Int) - 1)]) _ (fun k => k ≤ 18) (fun k => 18 - k) rfl rfl 0 (by omega) rfl ⟨[0, 1, 2, 3, 4, 5, 6, 7, 8, 9, 10, 11], rfl, rfl⟩ (fun k hk => ?_) | refine Lp.subK (α := Nat) [9] [0] _ (fun m => [.int .i64 m]) _ (fun m => m ≤ 16) (fun m => 16 - m) rfl rfl 0 (by omega) rfl ⟨[0, 1, 2, 3, 4, 5, 6, 7, 8, 9, 10, 11], rfl, rfl⟩ (fun m hm => ?_) | refine Lp.rounds 1 ?_)
      | (show Dr _ _ _ _ _ _ _ _ _; first | refine Dr.all (by kernel_rfl) ?_)
      | (show Fork _ _; first | refine Fork.mk ?_ ?_)
      | (show Vc.Fin _ _ _; first | refine Fin.take 12 ⟨_, rfl, rfl⟩)
      | (refine ⟨i + 1, by omega, by omega, rfl, ?_⟩; rw [pgk_set l1 i (by omega)]; exact ⟨_, rfl⟩)
      | (refine ⟨k + 1, by omega, by omega, ?_, [0, 1, 2, 3, 4, 5, 6, 7, 8, 9, 10, 11], rfl, rfl⟩; show some [Value.int IntKind.i64 ((k : Int) - 1 + 1)] = some [Value.int IntKind.i64 (((k + 1 : Nat) : Int) - 1)]; congr 3; omega)
      | refine ⟨m + 1, by omega, by omega, rfl, [0, 1, 2, 3, 4, 5, 6, 7, 8, 9, 10, 11], rfl, rfl⟩
      | intro b)
end Go.Proofs.Ytggbhokhibfdmaa
