/- What is laid into two memories: the program's and the document's hold the same bytes; the chapter's examples come out. Conditions: none. -/
import Derived.Test.YtbohpchmofkllaaWalkM
import Derived.Test.YtbohpchmofkllaaRows
set_option linter.unusedVariables false
set_option linter.unusedSimpArgs false
set_option linter.unusedSectionVars false
set_option maxRecDepth 10000
set_option maxHeartbeats 8000000
namespace Go.Proofs.Ytbohpchmofkllaa
open Vc Mem
/-- An entry that is laid. -/
structure Pu where
  t : Int
  i : Int
  x : Et
  raw : Bool
  w : Int
  hw : 0 ≤ w ∧ w ≤ 65535
def puV (u : Pu) : List Value := [.int .i64 u.t, .int .i64 u.i, .bool u.x.v, .bool u.x.l, .int .i64 u.x.r, .int .i64 u.x.f, .bool u.raw, .int .u16 u.w]
theorem puV_len (u : Pu) : (puV u).length = 8 := rfl
def pul (xs : List Int) (u : Pu) : List Int :=
  if u.raw = false then putL 16 xs u.t u.i u.x else if (0 ≤ u.t ∧ u.t < 16) ∧ 0 ≤ u.i ∧ u.i < 32 then storeL 16 xs (64 * u.t + 2 * u.i) 2 u.w else xs
def lay (us : List Pu) : List Int := us.foldl pul (List.replicate (16 * 64) 0)
theorem pul_length {xs : List Int} (hl : xs.length = 16 * 64) (u : Pu) : (pul xs u).length = 16 * 64 := by
  unfold pul
  split
  · exact putL_length hl _ _ _
  · split
    · rw [storeL_length, hl]
    · exact hl
theorem By.pul {xs : List Int} (h : By xs) (u : Pu) : By (pul xs u) := by
  unfold Proofs.Ytbohpchmofkllaa.pul
  split
  · exact By.put h _ _ _
  · split
    · exact h.store _ _ _ _
    · exact h
theorem lay_in : ∀ (us : List Pu), (lay us).length = 16 * 64 ∧ By (lay us) := by
  have key : ∀ (us : List Pu) (xs : List Int), xs.length = 16 * 64 → By xs → (us.foldl pul xs).length = 16 * 64 ∧ By (us.foldl pul xs) := by
    intro us
    induction us with
    | nil => intro xs h1 h2; exact ⟨h1, h2⟩
    | cons u us ih => intro xs h1 h2; exact ih _ (pul_length h1 u) (By.pul h2 u)
  exact fun us => key us _ (by simp) (By.rep _)
theorem lay_step {us : List Pu} {i : Nat} (h : i < us.length) : lay (us.take (i + 1)) = pul (lay (us.take i)) us[i] := by
  unfold lay
  rw [List.take_succ_eq_append_getElem h, List.foldl_append]
  rfl
theorem laid_con (a : Option Addr) (len cap : Nat) (w : World) (us : List Pu) (hlen : us.length = len) (ha : Arr w 8 puV a us) :
    Con Try.prog 11 [.slice a len cap] w [] (fun y L' => ∃ p F q B, y = .tuple #[.pointer (some ⟨p, 0, none⟩), .pointer (some ⟨q, 0, none⟩)] ∧ L' = [ramE p F 16, frE F (lay (us.take 200)), refE q B 16, byE B (lay (us.take 200))]) := by
  refine Con.of_vc tabOk 151 [.tmp 2, .tmp 3] Try.func11 rfl Try.ntmps11 Try.results11 rfl (Own.nil' w) ?_
  repeat' ((conv => whnf); first
    | (show _ ∧ _; first | (obtain ⟨rfl, rfl⟩ := hx; refine ⟨rfl, ?_⟩) | (obtain ⟨b, rfl, rfl⟩ := hx; refine ⟨rfl, ?_⟩) | (obtain ⟨b, c, rfl, rfl⟩ := hx; refine ⟨rfl, ?_⟩))
    | (show gsplit _ _ _; first | refine gsplit.tt ?_ | refine gsplit.ff ?_ | refine gsplit.dpos (by omega) ?_ | refine gsplit.dneg (by omega) ?_ | refine gsplit.npos (by omega) ?_ | refine gsplit.nneg (by omega) ?_ | refine gsplit.dec (fun hc => ?_) (fun hc => ?_) | refine gsplit.ndec (fun hc => ?_) (fun hc => ?_) | refine gsplit.eq (fun hc => ?_) (fun hc => ?_) | refine gsplit.neq (fun hc => ?_) (fun hc => ?_) | refine gsplit.mk (fun hb => ?_) (fun hb => ?_))
    | (show YQ _ _ _ _ _ _; first | refine qeqp Try.underlying26 ?_ | refine qeqp Try.underlying27 ?_ | refine YQ.idxN tabOk rfl ha puV_len (by omega) st.1 (List.getElem?_eq_getElem (by omega)) (by omega) (fun ab ao hd => ?_) | refine YQ.loadN1 tabOk hd rfl 0 rfl rfl ?_ | refine YQ.loadN1 tabOk hd rfl 1 rfl rfl ?_ | refine YQ.loadN1 tabOk hd rfl 6 rfl rfl ?_ | refine YQ.loadN1 tabOk hd rfl 7 rfl rfl ?_ | refine YQ.loadNA tabOk hd rfl 2 rfl (us := etV (Pu.x _)) rfl rfl ?_ | refine YQ.remN (by omega) ?_ | refine YQ.quoN (by omega) ?_ | refine YQ.len tabOk rfl ?_ | refine YQ.idx tabOk rfl (by omega) ?_ | refine YQ.idxA tabOk rfl (by omega) ?_ | refine YQ.sliceA tabOk rfl (by omega) (by omega) ?_ | refine YQ.sliceAll tabOk rfl ?_ | refine YQ.load1 tabOk rfl 0 rfl rfl ?_ | refine YQ.load1 tabOk rfl 1 rfl rfl ?_ | refine YQ.load1 tabOk rfl 2 rfl rfl ?_ | refine YQ.load1 tabOk rfl 3 rfl rfl ?_ | refine YQ.load1 tabOk rfl 4 rfl rfl ?_ | refine YQ.load1 tabOk rfl 5 rfl rfl ?_ | refine YQ.load1 tabOk rfl 6 rfl rfl ?_ | refine YQ.load1 tabOk rfl 7 rfl rfl ?_ | refine YQ.loadF tabOk rfl 0 rfl rfl ?_ | refine YQ.loadF tabOk rfl 1 rfl rfl ?_ | refine YQ.loadF tabOk rfl 2 rfl rfl ?_ | refine YQ.loadF tabOk rfl 3 rfl rfl ?_ | refine YQ.loadF tabOk rfl 4 rfl rfl ?_ | refine YQ.loadF tabOk rfl 5 rfl rfl ?_ | refine YQ.loadF tabOk rfl 6 rfl rfl ?_ | refine YQ.loadF tabOk rfl 7 rfl rfl ?_ | refine YQ.loadA tabOk rfl 0 rfl rfl rfl ?_ | refine YQ.loadA tabOk rfl 1 rfl rfl rfl ?_ | refine YQ.loadA tabOk rfl 2 rfl rfl rfl ?_ | refine YQ.loadA tabOk rfl 3 rfl rfl rfl ?_ | refine YQ.loadA tabOk rfl 4 rfl rfl rfl ?_ | refine YQ.build tabOk rfl rfl rfl ?_ | refine YQ.eqF tabOk rfl rfl rfl ?_ | refine YQ.neF tabOk rfl rfl rfl ?_)
    | (show YC _ _ _ _ _ _ _; first | refine YC.conR [] [] rfl rfl (fun w _ _ => ramNew_ok 16 16 (by omega) w) (fun x L' hx => ?_) | refine YC.conR [] [] rfl rfl (fun w _ _ => refNew_ok 16 16 (by omega) w) (fun x L' hx => ?_) | refine YC.conR [2, 3] _ rfl rfl (fun w hw0 hw => rput_con _ _ 16 (by omega) st.2 hst.2.2.2.1 _ _ _ w hw) (fun x L' hx => ?_) | refine YC.conR [0, 1] _ rfl rfl (fun w hw0 hw => put_con _ _ 16 (by omega) st.2 hst.2.2.2.1 _ _ _ w hw) (fun x L' hx => ?_) | refine YC.conR [2, 3] _ rfl rfl (fun w hw0 hw => rstore_con _ _ 16 (by omega) st.2 hst.2.2.2.1 _ 2 _ (by have h9 := (us[st.1]'(by omega)).hw; omega) w hw) (fun x L' hx => ?_) | refine YC.conR [0, 1] _ rfl rfl (fun w hw0 hw => store_con _ _ 16 (by omega) st.2 hst.2.2.2.1 _ 2 _ (by have h9 := (us[st.1]'(by omega)).hw; omega) w hw) (fun x L' hx => ?_))
    | (show YU _ _ _ _ _ _ _ _; first | refine YU.store1L tabOk rfl rfl 0 rfl rfl ?_ | refine YU.store1L tabOk rfl rfl 1 rfl rfl ?_ | refine YU.store1L tabOk rfl rfl 2 rfl rfl ?_ | refine YU.store1L tabOk rfl rfl 3 rfl rfl ?_ | refine YU.store1L tabOk rfl rfl 4 rfl rfl ?_ | refine YU.store1L tabOk rfl rfl 5 rfl rfl ?_ | refine YU.store1L tabOk rfl rfl 6 rfl rfl ?_ | refine YU.store1L tabOk rfl rfl 7 rfl rfl ?_ | refine YU.storeF tabOk rfl rfl rfl 0 rfl rfl ?_ | refine YU.storeF tabOk rfl rfl rfl 1 rfl rfl ?_ | refine YU.storeF tabOk rfl rfl rfl 2 rfl rfl ?_ | refine YU.storeF tabOk rfl rfl rfl 3 rfl rfl ?_ | refine YU.storeF tabOk rfl rfl rfl 4 rfl rfl ?_ | refine YU.storeF tabOk rfl rfl rfl 5 rfl rfl ?_ | refine YU.storeF tabOk rfl rfl rfl 6 rfl rfl ?_ | refine YU.storeF tabOk rfl rfl rfl 7 rfl rfl ?_ | refine YU.storeAL tabOk rfl rfl rfl 0 rfl rfl ?_ | refine YU.storeAL tabOk rfl rfl rfl 1 rfl rfl ?_ | refine YU.storeAL tabOk rfl rfl rfl 2 rfl rfl ?_ | refine YU.storeAL tabOk rfl rfl rfl 3 rfl rfl ?_ | refine YU.storeAL tabOk rfl rfl rfl 4 rfl rfl ?_)
    | (show Wr _ _ _; first | refine Wr.u32 (by have h9 := (us[st.1]'(by omega)).hw; omega) ?_ | refine Wr.i64 (by omega) ?_ | refine Wr.u8 (by omega) ?_ | refine Wr.u16 (by omega) ?_ | refine Wr.u32 (by omega) ?_)
    | (show BIf _ _ _; first | refine BIf.pos rfl ?_ | refine BIf.neg rfl ?_)
    | (show Lp _ _ _ _ _; first | refine Lp.mk (α := Nat × List Int) [8] [0, 4, 6] _ (fun x => [.int .i64 x.1]) (fun x => [ramE _ _ 16, frE _ x.2, refE _ _ 16, byE _ x.2]) (fun x => x.1 ≤ 200 ∧ x.1 ≤ us.length ∧ x.2 = lay (us.take x.1) ∧ x.2.length = 16 * 64 ∧ By x.2) (fun x => 200 - x.1) rfl rfl ⟨0, List.replicate (16 * 64) 0⟩ ⟨by simp, by simp, rfl, by simp, By.rep _⟩ rfl ⟨_, rfl⟩ (fun st hst => ?_))
    | (show Dr _ _ _ _ _ _ _ _ _; first | (show Dr _ _ _ _ _ (Array.toList #[_, _, _, _, _, _, _, _, _, _, _, _, _, _, _, _, _]) _ _ _; refine Dr.mk 16 (by kernel_rfl) ?_) | (show Dr _ _ _ _ _ (Array.toList #[_, _, _, _, _, _, _, _, _, _, _, _, _, _, _, _, _, _, _, _, _]) _ _ _; refine Dr.mk 20 (by kernel_rfl) ?_) | refine Dr.all (by kernel_rfl) ?_)
    | (show Fork _ _; first | refine Fork.mk ?_ ?_)
    | (show Vc.Fin _ _ _; first | (refine Fin.take 4 ?_; have e9 : st.2 = lay (us.take 200) := (by rw [hst.2.2.1]; first | (rw [List.take_of_length_le (by omega), List.take_of_length_le (by omega)]; done) | (rw [show st.1 = 200 by omega])); rw [← e9]; exact ⟨_, _, _, _, rfl, rfl⟩))
    | refine ⟨⟨st.1 + 1, putL 16 st.2 _ _ _⟩, ⟨by show st.1 + 1 ≤ 200; omega, by show st.1 + 1 ≤ us.length; omega, ?_, putL_length hst.2.2.2.1 _ _ _, By.put hst.2.2.2.2 _ _ _⟩, by show 200 - (st.1 + 1) < 200 - st.1; omega, rfl, ⟨_, rfl⟩⟩
    | refine ⟨⟨st.1 + 1, storeL 16 st.2 _ 2 _⟩, ⟨by show st.1 + 1 ≤ 200; omega, by show st.1 + 1 ≤ us.length; omega, ?_, (by rw [storeL_length]; exact hst.2.2.2.1), hst.2.2.2.2.store _ _ _ _⟩, by show 200 - (st.1 + 1) < 200 - st.1; omega, rfl, ⟨_, rfl⟩⟩
    | refine ⟨⟨st.1 + 1, st.2⟩, ⟨by show st.1 + 1 ≤ 200; omega, by show st.1 + 1 ≤ us.length; omega, ?_, hst.2.2.2.1, hst.2.2.2.2⟩, by show 200 - (st.1 + 1) < 200 - st.1; omega, rfl, ⟨_, rfl⟩⟩
    | intro b)
  all_goals first
    | (show putL 16 st.2 _ _ _ = lay (us.take (st.1 + 1)); rw [lay_step (by omega), ← hst.2.2.1]; exact (if_pos (by simpa using hb)).symm)
    | (show storeL 16 st.2 _ 2 _ = lay (us.take (st.1 + 1)); rw [lay_step (by omega), ← hst.2.2.1]; exact ((if_neg (by simp at hb; simp [hb])).trans (if_pos (by omega))).symm)
    | (show st.2 = lay (us.take (st.1 + 1)); rw [lay_step (by omega), ← hst.2.2.1]; exact ((if_neg (by simp at hb; simp [hb])).trans (if_neg (by omega))).symm)
def atU (t i f r : Int) : Pu := ⟨t, i, ⟨true, decide (0 < r), r, f⟩, false, 0, by omega⟩
theorem at_con (t i f r : Int) (w : World) : Con Try.prog 59 [.int .i64 t, .int .i64 i, .int .i64 f, .int .i64 r] w [] (fun y L' => y = .agg (puV (atU t i f r)).toArray ∧ L' = []) := by
  refine Con.of_vc tabOk 17 [.cell 8 40] Try.func59 rfl Try.ntmps59 Try.results59 rfl (Own.nil' w) ?_
  repeat' ((conv => whnf); first
    | (show _ ∧ _; first | (obtain ⟨rfl, rfl⟩ := hx; refine ⟨rfl, ?_⟩) | (obtain ⟨b, rfl, rfl⟩ := hx; refine ⟨rfl, ?_⟩) | (obtain ⟨b, c, rfl, rfl⟩ := hx; refine ⟨rfl, ?_⟩))
    | (show gsplit _ _ _; first | refine gsplit.tt ?_ | refine gsplit.ff ?_ | refine gsplit.dpos (by omega) ?_ | refine gsplit.dneg (by omega) ?_ | refine gsplit.npos (by omega) ?_ | refine gsplit.nneg (by omega) ?_ | refine gsplit.dec (fun hc => ?_) (fun hc => ?_) | refine gsplit.ndec (fun hc => ?_) (fun hc => ?_) | refine gsplit.eq (fun hc => ?_) (fun hc => ?_) | refine gsplit.neq (fun hc => ?_) (fun hc => ?_) | refine gsplit.mk (fun hb => ?_) (fun hb => ?_))
    | (show YQ _ _ _ _ _ _; first | refine YQ.remN (by omega) ?_ | refine YQ.quoN (by omega) ?_ | refine YQ.len tabOk rfl ?_ | refine YQ.idx tabOk rfl (by omega) ?_ | refine YQ.idxA tabOk rfl (by omega) ?_ | refine YQ.sliceA tabOk rfl (by omega) (by omega) ?_ | refine YQ.sliceAll tabOk rfl ?_ | refine YQ.load1 tabOk rfl 0 rfl rfl ?_ | refine YQ.load1 tabOk rfl 1 rfl rfl ?_ | refine YQ.load1 tabOk rfl 2 rfl rfl ?_ | refine YQ.load1 tabOk rfl 3 rfl rfl ?_ | refine YQ.load1 tabOk rfl 4 rfl rfl ?_ | refine YQ.load1 tabOk rfl 5 rfl rfl ?_ | refine YQ.load1 tabOk rfl 6 rfl rfl ?_ | refine YQ.load1 tabOk rfl 7 rfl rfl ?_ | refine YQ.loadF tabOk rfl 0 rfl rfl ?_ | refine YQ.loadF tabOk rfl 1 rfl rfl ?_ | refine YQ.loadF tabOk rfl 2 rfl rfl ?_ | refine YQ.loadF tabOk rfl 3 rfl rfl ?_ | refine YQ.loadF tabOk rfl 4 rfl rfl ?_ | refine YQ.loadF tabOk rfl 5 rfl rfl ?_ | refine YQ.loadF tabOk rfl 6 rfl rfl ?_ | refine YQ.loadF tabOk rfl 7 rfl rfl ?_ | refine YQ.loadA tabOk rfl 0 rfl rfl rfl ?_ | refine YQ.loadA tabOk rfl 1 rfl rfl rfl ?_ | refine YQ.loadA tabOk rfl 2 rfl rfl rfl ?_ | refine YQ.loadA tabOk rfl 3 rfl rfl rfl ?_ | refine YQ.loadA tabOk rfl 4 rfl rfl rfl ?_ | refine YQ.build tabOk rfl rfl rfl ?_ | refine YQ.eqF tabOk rfl rfl rfl ?_ | refine YQ.neF tabOk rfl rfl rfl ?_)
    | (show YU _ _ _ _ _ _ _ _; first | refine YU.store1L tabOk rfl rfl 0 rfl rfl ?_ | refine YU.store1L tabOk rfl rfl 1 rfl rfl ?_ | refine YU.store1L tabOk rfl rfl 2 rfl rfl ?_ | refine YU.store1L tabOk rfl rfl 3 rfl rfl ?_ | refine YU.store1L tabOk rfl rfl 4 rfl rfl ?_ | refine YU.store1L tabOk rfl rfl 5 rfl rfl ?_ | refine YU.store1L tabOk rfl rfl 6 rfl rfl ?_ | refine YU.store1L tabOk rfl rfl 7 rfl rfl ?_ | refine YU.storeF tabOk rfl rfl rfl 0 rfl rfl ?_ | refine YU.storeF tabOk rfl rfl rfl 1 rfl rfl ?_ | refine YU.storeF tabOk rfl rfl rfl 2 rfl rfl ?_ | refine YU.storeF tabOk rfl rfl rfl 3 rfl rfl ?_ | refine YU.storeF tabOk rfl rfl rfl 4 rfl rfl ?_ | refine YU.storeF tabOk rfl rfl rfl 5 rfl rfl ?_ | refine YU.storeF tabOk rfl rfl rfl 6 rfl rfl ?_ | refine YU.storeF tabOk rfl rfl rfl 7 rfl rfl ?_ | refine YU.storeAL tabOk rfl rfl rfl 0 rfl rfl ?_ | refine YU.storeAL tabOk rfl rfl rfl 1 rfl rfl ?_ | refine YU.storeAL tabOk rfl rfl rfl 2 rfl rfl ?_ | refine YU.storeAL tabOk rfl rfl rfl 3 rfl rfl ?_ | refine YU.storeAL tabOk rfl rfl rfl 4 rfl rfl ?_)
    | (show Wr _ _ _; first | refine Wr.i64 (by omega) ?_ | refine Wr.u8 (by omega) ?_ | refine Wr.u16 (by omega) ?_ | refine Wr.u32 (by omega) ?_)
    | (show BIf _ _ _; first | refine BIf.pos rfl ?_ | refine BIf.neg rfl ?_)
    | (show Dr _ _ _ _ _ _ _ _ _; first | refine Dr.all (by kernel_rfl) ?_)
    | (show Fork _ _; first | refine Fork.mk ?_ ?_)
    | (show Vc.Fin _ _ _; first | refine Fin.take 0 (And.intro ?_ rfl))
    | intro b)
  all_goals rfl
def exU : List Pu := [atU 1 0 2 0, atU 2 5 7 3, atU 2 3 4 1, atU 4 0 6 0, atU 2 6 5 1, atU 5 9 5 1]
theorem slPu : SlI Try.prog 22 40 8 48 [.int .i64 0, .int .i64 0, .bool false, .bool false, .int .i64 0, .int .i64 0, .bool false, .int .u16 0] := SlI.of Try.underlying22 (by kernel_rfl) (by kernel_rfl) rfl rfl rfl
theorem example_con (w : World) : Con Try.prog 31 [] w [] (fun y L' => ∃ b, y = .slice (some ⟨b, 0, none⟩) 6 6 ∧ L' = [⟨b, 40, rows puV exU⟩]) := by
  refine Con.of_vc tabOk 8 [.tmp 0] Try.func31 rfl Try.ntmps31 Try.results31 rfl (Own.nil' w) ?_
  repeat' ((conv => whnf); first
    | (show _ ∧ _; first | (obtain ⟨rfl, rfl⟩ := hx; refine ⟨rfl, ?_⟩) | (obtain ⟨b, rfl, rfl⟩ := hx; refine ⟨rfl, ?_⟩) | (obtain ⟨b, c, rfl, rfl⟩ := hx; refine ⟨rfl, ?_⟩))
    | (show gsplit _ _ _; first | refine gsplit.tt ?_ | refine gsplit.ff ?_ | refine gsplit.dpos (by omega) ?_ | refine gsplit.dneg (by omega) ?_ | refine gsplit.npos (by omega) ?_ | refine gsplit.nneg (by omega) ?_ | refine gsplit.dec (fun hc => ?_) (fun hc => ?_) | refine gsplit.ndec (fun hc => ?_) (fun hc => ?_) | refine gsplit.eq (fun hc => ?_) (fun hc => ?_) | refine gsplit.neq (fun hc => ?_) (fun hc => ?_) | refine gsplit.mk (fun hb => ?_) (fun hb => ?_))
    | (show YQ _ _ _ _ _ _; first | refine YQ.remN (by omega) ?_ | refine YQ.quoN (by omega) ?_ | refine YQ.len tabOk rfl ?_ | refine YQ.idx tabOk rfl (by omega) ?_ | refine YQ.idxA tabOk rfl (by omega) ?_ | refine YQ.sliceA tabOk rfl (by omega) (by omega) ?_ | refine YQ.sliceAll tabOk rfl ?_ | refine YQ.load1 tabOk rfl 0 rfl rfl ?_ | refine YQ.load1 tabOk rfl 1 rfl rfl ?_ | refine YQ.load1 tabOk rfl 2 rfl rfl ?_ | refine YQ.load1 tabOk rfl 3 rfl rfl ?_ | refine YQ.load1 tabOk rfl 4 rfl rfl ?_ | refine YQ.load1 tabOk rfl 5 rfl rfl ?_ | refine YQ.load1 tabOk rfl 6 rfl rfl ?_ | refine YQ.load1 tabOk rfl 7 rfl rfl ?_ | refine YQ.loadF tabOk rfl 0 rfl rfl ?_ | refine YQ.loadF tabOk rfl 1 rfl rfl ?_ | refine YQ.loadF tabOk rfl 2 rfl rfl ?_ | refine YQ.loadF tabOk rfl 3 rfl rfl ?_ | refine YQ.loadF tabOk rfl 4 rfl rfl ?_ | refine YQ.loadF tabOk rfl 5 rfl rfl ?_ | refine YQ.loadF tabOk rfl 6 rfl rfl ?_ | refine YQ.loadF tabOk rfl 7 rfl rfl ?_ | refine YQ.loadA tabOk rfl 0 rfl rfl rfl ?_ | refine YQ.loadA tabOk rfl 1 rfl rfl rfl ?_ | refine YQ.loadA tabOk rfl 2 rfl rfl rfl ?_ | refine YQ.loadA tabOk rfl 3 rfl rfl rfl ?_ | refine YQ.loadA tabOk rfl 4 rfl rfl rfl ?_ | refine YQ.build tabOk rfl rfl rfl ?_ | refine YQ.eqF tabOk rfl rfl rfl ?_ | refine YQ.neF tabOk rfl rfl rfl ?_)
    | (show YC _ _ _ _ _ _ _; first | refine YC.conR [] [] rfl rfl (fun w _ _ => at_con _ _ _ _ w) (fun x L' hx => ?_))
    | (show YW _ _ _ _ _ _; first | refine YW.lit slPu rfl (by omega) (fun b => ?_))
    | (show YU _ _ _ _ _ _ _ _; first | refine YU.store1L tabOk rfl rfl 0 rfl rfl ?_ | refine YU.store1L tabOk rfl rfl 1 rfl rfl ?_ | refine YU.store1L tabOk rfl rfl 2 rfl rfl ?_ | refine YU.store1L tabOk rfl rfl 3 rfl rfl ?_ | refine YU.store1L tabOk rfl rfl 4 rfl rfl ?_ | refine YU.store1L tabOk rfl rfl 5 rfl rfl ?_ | refine YU.store1L tabOk rfl rfl 6 rfl rfl ?_ | refine YU.store1L tabOk rfl rfl 7 rfl rfl ?_ | refine YU.storeF tabOk rfl rfl rfl 0 rfl rfl ?_ | refine YU.storeF tabOk rfl rfl rfl 1 rfl rfl ?_ | refine YU.storeF tabOk rfl rfl rfl 2 rfl rfl ?_ | refine YU.storeF tabOk rfl rfl rfl 3 rfl rfl ?_ | refine YU.storeF tabOk rfl rfl rfl 4 rfl rfl ?_ | refine YU.storeF tabOk rfl rfl rfl 5 rfl rfl ?_ | refine YU.storeF tabOk rfl rfl rfl 6 rfl rfl ?_ | refine YU.storeF tabOk rfl rfl rfl 7 rfl rfl ?_ | refine YU.storeAL tabOk rfl rfl rfl 0 rfl rfl ?_ | refine YU.storeAL tabOk rfl rfl rfl 1 rfl rfl ?_ | refine YU.storeAL tabOk rfl rfl rfl 2 rfl rfl ?_ | refine YU.storeAL tabOk rfl rfl rfl 3 rfl rfl ?_ | refine YU.storeAL tabOk rfl rfl rfl 4 rfl rfl ?_)
    | (show Wr _ _ _; first | refine Wr.i64 (by omega) ?_ | refine Wr.u8 (by omega) ?_ | refine Wr.u16 (by omega) ?_ | refine Wr.u32 (by omega) ?_)
    | (show BIf _ _ _; first | refine BIf.pos rfl ?_ | refine BIf.neg rfl ?_)
    | (show Dr _ _ _ _ _ _ _ _ _; first | refine Dr.all (by kernel_rfl) ?_)
    | (show Fork _ _; first | refine Fork.mk ?_ ?_)
    | (show Vc.Fin _ _ _; first | refine Fin.take 1 ⟨_, rfl, rfl⟩)
    | intro b)
theorem ex1 : sgl 16 (lay exU) 1 5 = ⟨7, 3, fa0⟩ := by kernel_rfl
theorem ex2 : sgl 16 (lay exU) 1 40 = ⟨0, 0, ⟨1, 2, 0, false, 40⟩⟩ := by kernel_rfl
theorem ex3 : nst 16 (lay exU) ⟨0, 0, 3, 1⟩ 9 1 = ⟨7, 1, fa0⟩ := by kernel_rfl
theorem ex4 : nst 16 (lay exU) ⟨0, 0, 3, 1⟩ 9 2 = ⟨0, 0, ⟨2, 1, 1, false, 9⟩⟩ := by kernel_rfl
theorem ex5 : nst 16 (lay exU) ⟨0, 0, 8, 1⟩ 9 1 = ⟨0, 0, ⟨1, 2, 1, true, 8⟩⟩ := by kernel_rfl
/-- The examples, at any memory at which the walks answer so. -/
theorem awake4_aux (X : List Int) (hX : lay (exU.take 200) = X) (hl : X.length = 16 * 64) (hB : By X) (h1 : sgl 16 X 1 5 = ⟨7, 3, fa0⟩) (h2 : sgl 16 X 1 40 = ⟨0, 0, ⟨1, 2, 0, false, 40⟩⟩) (h3 : nst 16 X ⟨0, 0, 3, 1⟩ 9 1 = ⟨7, 1, fa0⟩) (h4 : nst 16 X ⟨0, 0, 3, 1⟩ 9 2 = ⟨0, 0, ⟨2, 1, 1, false, 9⟩⟩) (h5 : nst 16 X ⟨0, 0, 8, 1⟩ 9 1 = ⟨0, 0, ⟨1, 2, 1, true, 8⟩⟩) (w : World) :
    Con Try.prog 10 [] w [] (fun y L' => y = .bool true ∧ L' = []) := by
  refine Con.of_vc tabOk 97 [.tmp 0] Try.func10 rfl Try.ntmps10 Try.results10 rfl (Own.nil' w) ?_
  repeat' ((conv => whnf); first
    | (show _ ∧ _; first | (simp only [hX, h1, h2, h3, h4, h5] at hx) | (obtain ⟨rfl, rfl⟩ := hx; refine ⟨rfl, ?_⟩) | (obtain ⟨b, rfl, rfl⟩ := hx; refine ⟨rfl, ?_⟩) | (obtain ⟨b, c, rfl, rfl⟩ := hx; refine ⟨rfl, ?_⟩) | (obtain ⟨p, F, q, B, rfl, rfl⟩ := hx; refine ⟨rfl, ?_⟩) | (obtain ⟨rfl, rfl⟩ := hx; refine ⟨rfl, ?_⟩) | (obtain ⟨b, rfl, rfl⟩ := hx; refine ⟨rfl, ?_⟩) | (obtain ⟨b, c, rfl, rfl⟩ := hx; refine ⟨rfl, ?_⟩))
    | (show gsplit _ _ _; first | refine gsplit.tt ?_ | refine gsplit.ff ?_ | refine gsplit.dpos (by omega) ?_ | refine gsplit.dneg (by omega) ?_ | refine gsplit.npos (by omega) ?_ | refine gsplit.nneg (by omega) ?_ | refine gsplit.dec (fun hc => ?_) (fun hc => ?_) | refine gsplit.ndec (fun hc => ?_) (fun hc => ?_) | refine gsplit.eq (fun hc => ?_) (fun hc => ?_) | refine gsplit.neq (fun hc => ?_) (fun hc => ?_) | refine gsplit.mk (fun hb => ?_) (fun hb => ?_))
    | (show YQ _ _ _ _ _ _; first | refine qeqp Try.underlying26 ?_ | refine YQ.loadF tabOk rfl 8 rfl rfl ?_ | refine YQ.loadF tabOk rfl 9 rfl rfl ?_ | refine YQ.remN (by omega) ?_ | refine YQ.quoN (by omega) ?_ | refine YQ.len tabOk rfl ?_ | refine YQ.idx tabOk rfl (by omega) ?_ | refine YQ.idxA tabOk rfl (by omega) ?_ | refine YQ.sliceA tabOk rfl (by omega) (by omega) ?_ | refine YQ.sliceAll tabOk rfl ?_ | refine YQ.load1 tabOk rfl 0 rfl rfl ?_ | refine YQ.load1 tabOk rfl 1 rfl rfl ?_ | refine YQ.load1 tabOk rfl 2 rfl rfl ?_ | refine YQ.load1 tabOk rfl 3 rfl rfl ?_ | refine YQ.load1 tabOk rfl 4 rfl rfl ?_ | refine YQ.load1 tabOk rfl 5 rfl rfl ?_ | refine YQ.load1 tabOk rfl 6 rfl rfl ?_ | refine YQ.load1 tabOk rfl 7 rfl rfl ?_ | refine YQ.loadF tabOk rfl 0 rfl rfl ?_ | refine YQ.loadF tabOk rfl 1 rfl rfl ?_ | refine YQ.loadF tabOk rfl 2 rfl rfl ?_ | refine YQ.loadF tabOk rfl 3 rfl rfl ?_ | refine YQ.loadF tabOk rfl 4 rfl rfl ?_ | refine YQ.loadF tabOk rfl 5 rfl rfl ?_ | refine YQ.loadF tabOk rfl 6 rfl rfl ?_ | refine YQ.loadF tabOk rfl 7 rfl rfl ?_ | refine YQ.loadA tabOk rfl 0 rfl rfl rfl ?_ | refine YQ.loadA tabOk rfl 1 rfl rfl rfl ?_ | refine YQ.loadA tabOk rfl 2 rfl rfl rfl ?_ | refine YQ.loadA tabOk rfl 3 rfl rfl rfl ?_ | refine YQ.loadA tabOk rfl 4 rfl rfl rfl ?_ | refine YQ.build tabOk rfl rfl rfl ?_ | refine YQ.eqF tabOk rfl rfl rfl ?_ | refine YQ.neF tabOk rfl rfl rfl ?_)
    | (show YC _ _ _ _ _ _ _; first | refine YC.conR [] [] rfl rfl (fun w _ _ => example_con w) (fun x L' hx => ?_) | refine YC.conR [] [] rfl rfl (fun w hw0 _ => laid_con _ 6 _ w exU rfl (hw0.arr (ls := exU) (tl := []) puV_len 0 (by rw [List.append_nil]; rfl))) (fun x L' hx => ?_) | refine YC.conR [1, 2] _ rfl rfl (fun w hw0 hw => single_con _ _ 16 (by omega) X hB hl 1 5 w hw) (fun x L' hx => ?_) | refine YC.conR [1, 2] _ rfl rfl (fun w hw0 hw => single_con _ _ 16 (by omega) X hB hl 1 40 w hw) (fun x L' hx => ?_) | refine YC.conR [1, 2] _ rfl rfl (fun w hw0 hw => nested_con _ _ 16 (by omega) X hB hl ⟨0, 0, 3, 1⟩ 9 1 w hw) (fun x L' hx => ?_) | refine YC.conR [1, 2] _ rfl rfl (fun w hw0 hw => nested_con _ _ 16 (by omega) X hB hl ⟨0, 0, 3, 1⟩ 9 2 w hw) (fun x L' hx => ?_) | refine YC.conR [1, 2] _ rfl rfl (fun w hw0 hw => nested_con _ _ 16 (by omega) X hB hl ⟨0, 0, 8, 1⟩ 9 1 w hw) (fun x L' hx => ?_))
    | (show YU _ _ _ _ _ _ _ _; first | refine YU.storeF tabOk rfl rfl rfl 8 rfl rfl ?_ | refine YU.storeF tabOk rfl rfl rfl 9 rfl rfl ?_ | refine YU.store1L tabOk rfl rfl 0 rfl rfl ?_ | refine YU.store1L tabOk rfl rfl 1 rfl rfl ?_ | refine YU.store1L tabOk rfl rfl 2 rfl rfl ?_ | refine YU.store1L tabOk rfl rfl 3 rfl rfl ?_ | refine YU.store1L tabOk rfl rfl 4 rfl rfl ?_ | refine YU.store1L tabOk rfl rfl 5 rfl rfl ?_ | refine YU.store1L tabOk rfl rfl 6 rfl rfl ?_ | refine YU.store1L tabOk rfl rfl 7 rfl rfl ?_ | refine YU.storeF tabOk rfl rfl rfl 0 rfl rfl ?_ | refine YU.storeF tabOk rfl rfl rfl 1 rfl rfl ?_ | refine YU.storeF tabOk rfl rfl rfl 2 rfl rfl ?_ | refine YU.storeF tabOk rfl rfl rfl 3 rfl rfl ?_ | refine YU.storeF tabOk rfl rfl rfl 4 rfl rfl ?_ | refine YU.storeF tabOk rfl rfl rfl 5 rfl rfl ?_ | refine YU.storeF tabOk rfl rfl rfl 6 rfl rfl ?_ | refine YU.storeF tabOk rfl rfl rfl 7 rfl rfl ?_ | refine YU.storeAL tabOk rfl rfl rfl 0 rfl rfl ?_ | refine YU.storeAL tabOk rfl rfl rfl 1 rfl rfl ?_ | refine YU.storeAL tabOk rfl rfl rfl 2 rfl rfl ?_ | refine YU.storeAL tabOk rfl rfl rfl 3 rfl rfl ?_ | refine YU.storeAL tabOk rfl rfl rfl 4 rfl rfl ?_)
    | (show Wr _ _ _; first | refine Wr.i64 (by omega) ?_ | refine Wr.u8 (by omega) ?_ | refine Wr.u16 (by omega) ?_ | refine Wr.u32 (by omega) ?_)
    | (show BIf _ _ _; first | refine BIf.pos rfl ?_ | refine BIf.neg rfl ?_)
    | (show Dr _ _ _ _ _ _ _ _ _; first | refine Dr.all (by kernel_rfl) ?_)
    | (show Fork _ _; first | refine Fork.mk ?_ ?_)
    | (show Vc.Fin _ _ _; first | refine Fin.take 0 (And.intro ?_ rfl))
    | intro b)
  all_goals first
    | (show Value.bool _ = Value.bool _; rfl)
    | (exfalso; exact hc ⟨rfl, rfl, rfl, rfl, rfl, trivial⟩)
    | (show Value.bool _ = Value.bool _; congr 1; exact eqB_true.2 ⟨rfl, rfl, rfl, rfl, rfl, trivial⟩)
theorem awake4_con (w : World) : Con Try.prog 10 [] w [] (fun y L' => y = .bool true ∧ L' = []) :=
  awake4_aux (lay exU) rfl (lay_in exU).1 (lay_in exU).2 ex1 ex2 ex3 ex4 ex5 w
end Go.Proofs.Ytbohpchmofkllaa
