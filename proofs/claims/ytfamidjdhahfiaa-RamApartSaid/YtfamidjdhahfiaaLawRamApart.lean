/- 'viceroylaw01.RamApart' answers true at every input. Conditions: none beside the row's own. -/
import Derived.Test.YtfamidjdhahfiaaRows
import Derived.Test.YtfamidjdhahfiaaLawRamPlays
set_option linter.unusedVariables false
set_option linter.unusedSimpArgs false
set_option maxRecDepth 10000
set_option maxHeartbeats 4000000
namespace Go.Proofs.Ytfamidjdhahfiaa
open Vc Mem
/-- The frames, one behind the other, are the memory. -/
theorem frames4 {xs : List Int} (hl : xs.length = 4 * 64) : ((frm xs 0 ++ frm xs 1) ++ frm xs 2) ++ frm xs 3 = xs := by
  simp only [frm]
  have e3 : (xs.drop (3 * 64)).take 64 = xs.drop (3 * 64) := List.take_of_length_le (by rw [List.length_drop]; omega)
  rw [e3]
  have a2 : (xs.drop (2 * 64)).take 64 ++ xs.drop (3 * 64) = xs.drop (2 * 64) := by
    rw [show 3 * 64 = 2 * 64 + 64 by omega, ← List.drop_drop, List.take_append_drop]
  have a1 : (xs.drop (1 * 64)).take 64 ++ xs.drop (2 * 64) = xs.drop (1 * 64) := by
    rw [show 2 * 64 = 1 * 64 + 64 by omega, ← List.drop_drop, List.take_append_drop]
  have a0 : (xs.drop (0 * 64)).take 64 ++ xs.drop (1 * 64) = xs := by
    rw [Nat.zero_mul, List.drop_zero, Nat.one_mul, List.take_append_drop]
  rw [List.append_assoc, List.append_assoc, a2, a1, a0]
theorem frm_ints {xs : List Int} {n k : Nat} (hl : xs.length = n * 64) (hk : k < n) : (ints .u8 (frm xs k)).length = 64 := by rw [ints_length, frm_length hl hk]
theorem storeL_apart {n : Nat} {xs : List Int} (hl : xs.length = n * 64) (a s v : Int) (i : Nat) (h : ¬ (bad n a s = 0 ∧ a ≤ i ∧ (i : Int) < a + s)) : gt (storeL n xs a s v) i = gt xs i := by
  unfold storeL
  split
  · rename_i hb
    have hf := fine_of hb
    have hr := hf.room
    have hlo := hf.lo
    have hsz := hf.size
    rw [gt_st hf.size (by rw [hl]; rcases hsz with rfl | rfl | rfl <;> omega), if_neg (by intro h2; exact h ⟨hb, by omega, by rcases hsz with rfl | rfl | rfl <;> omega⟩)]
  · rfl
theorem rdyF {P : Program} {w0 : World} {I : List Nat} {L : Hs} {b k c ty tx e' : Nat} {xs : List Int} (hk : P.underlying tx = some (.slice e')) (i : Nat) (hi : cAt L i = some ⟨b, ty, ints .u8 xs⟩) (hl : xs.length = k) : Rdy P w0 I L 1 tx (.slice (some ⟨b, 0, none⟩) k c) k (ints .u8 xs) :=
  Rdy.own hk i hi (by rw [List.drop_zero, List.take_of_length_le (by rw [ints_length]; omega)]) (by rw [ints_length]; omega) (ints_mem _ _)
theorem storeL_len {n : Nat} {xs : List Int} {a s v : Int} (hl : xs.length = n * 64) : (storeL n xs a s v).length = n * 64 := by rw [storeL_length, hl]
theorem YQ.loadU {P : Program} {w0 : World} {I : List Nat} {T : Tab} {L : Hs} (TO : TabOk P T) {t b o : Nat} {ys : List Int} {sl : List Value} {ty : Nat} {K : Value → Prop} (hs : memB t T.sc = true) (i j : Nat) (zs : List Int) (hi : cAt L i = some ⟨b, ty, ints .u8 ys ++ sl⟩) (hz : ys = zs)
    (ho : o = j ∧ j < zs.length) (kk : K (.int .u8 (gt zs j))) : YQ P w0 I L (.load t (.pointer (some ⟨b, o, none⟩))) K := by
  subst hz
  obtain ⟨rfl, ho⟩ := ho
  exact YQ.load1 TO hs i hi (by rw [List.getElem?_append_left (by rw [ints_length]; exact ho)]; exact ints_get ho) kk
theorem frame_at (p F n : Nat) (hn : n ≤ 1024) (xs : List Int) (hl : xs.length = n * 64) (k : Int) (j : Nat) (hj : k = j ∧ j < n) (w : World) (hw : Own w [ramE p F n, frE F xs]) : Con Try.prog 14 [.pointer (some ⟨p, 0, none⟩), .int .i64 k] w [ramE p F n, frE F xs]
    (fun y L' => ∃ b, y = .tuple #[.slice (some ⟨b, 0, none⟩) 64 64, .int .i64 0] ∧ L' = [ramE p F n, frE F xs, frE b (frm xs j)]) := by
  have := frame_ok p F n hn xs hl k (by unfold thereP; omega) w hw
  rw [show k.toNat = j by omega] at this
  exact this
theorem YW.appU {w0 : World} {I : List Nat} {L : Hs} {b len cap k : Nat} {sl : List Value} {x : Value} {K : Value → Hs → Prop} (xs ys : List Int) (m i : Nat) (hi : cAt L i = some ⟨b, 5, ints .u8 xs ++ sl⟩) (hc : xs.length + sl.length = cap ∧ xs.length = len ∧ m = len + k ∧ m ≤ 1000 ∧ ys.length = k)
    (hs : Rdy Try.prog w0 I L 1 33 x k (ints .u8 ys)) (kk : ∀ b' cap' sl', (xs ++ ys).length + sl'.length = cap' → K (.slice (some ⟨b', 0, none⟩) m cap') (L.set i ⟨b', 5, ints .u8 (xs ++ ys) ++ sl'⟩)) :
    YW Try.prog w0 I L (.append #[33, 33] [.slice (some ⟨b, 0, none⟩) len cap, x]) K := by
  obtain ⟨h1, h2, rfl, h4, h5⟩ := hc
  refine YW.append slU8 i hi (by rw [ints_length]; omega) (by rw [ints_length]; omega) (by omega) hs (by omega) (fun b' cap' sl' g1 g2 => ?_)
  rw [ints_app]
  exact kk b' cap' sl' (by rw [ints_length, ints_length] at g2; rw [List.length_append]; omega)
theorem YW.appU0 {w0 : World} {I : List Nat} {L : Hs} {k : Nat} {x : Value} {K : Value → Hs → Prop} (ys : List Int) (hc : 0 < k ∧ k ≤ 1000 ∧ ys.length = k)
    (hs : Rdy Try.prog w0 I L 1 33 x k (ints .u8 ys)) (kk : ∀ b' cap' sl', ys.length + sl'.length = cap' → K (.slice (some ⟨b', 0, none⟩) k cap') (L ++ [⟨b', 5, ints .u8 ys ++ sl'⟩])) :
    YW Try.prog w0 I L (.append #[33, 33] [.slice none 0 0, x]) K := by
  obtain ⟨h1, h2, h3⟩ := hc
  exact YW.append0 slU8 hs h1 (by omega) (fun b' cap' sl' g1 g2 => kk b' cap' sl' (by rw [ints_length] at g2; omega))
structure F4 (X : List Int) : Prop where
  l0 : (frm X 0).length = 64
  l1 : (frm X 1).length = 64
  l2 : (frm X 2).length = 64
  l3 : (frm X 3).length = 64
  s1 : (frm X 0 ++ frm X 1).length = 128
  s2 : ((frm X 0 ++ frm X 1) ++ frm X 2).length = 192
theorem F4.of {X : List Int} (hl : X.length = 4 * 64) : F4 X := by
  have h0 : (frm X 0).length = 64 := frm_length hl (by omega)
  have h1 : (frm X 1).length = 64 := frm_length hl (by omega)
  have h2 : (frm X 2).length = 64 := frm_length hl (by omega)
  have h3 : (frm X 3).length = 64 := frm_length hl (by omega)
  exact ⟨h0, h1, h2, h3, by rw [List.length_append]; omega, by rw [List.length_append, List.length_append]; omega⟩
/-- The comparing at the end. -/
theorem ramApart_con (a0 : Option Addr) (len cap : Nat) (w : World) (acts : List (RAw w)) (hlen : acts.length = len) (ha : Arr w 5 rawV a0 acts) (a s v : Int) (hv : 0 ≤ v ∧ v ≤ 4294967295) :
    Con Try.prog 3 [.slice a0 len cap, .int .i64 a, .int .i64 s, .int .u32 v] w [] (fun y L' => y = .bool true ∧ L' = []) := by
  have tU := Try.underlying33
  refine Con.of_vc tabOk 143 [.tmp 8] Try.func3 rfl Try.ntmps3 Try.results3 rfl (Own.nil' w) ?_
  repeat' ((conv => whnf); first
    | (obtain ⟨rfl, rfl⟩ := hx; refine ⟨rfl, ?_⟩)
    | (obtain ⟨b, rfl, rfl⟩ := hx; refine ⟨rfl, ?_⟩)
    | (obtain ⟨b, c, rfl, rfl⟩ := hx; refine ⟨rfl, ?_⟩)
    | (show gsplit _ _ _; first | refine gsplit.tt ?_ | refine gsplit.ff ?_ | refine gsplit.dpos (by omega) ?_ | refine gsplit.dneg (by omega) ?_ | refine gsplit.npos (by omega) ?_ | refine gsplit.nneg (by omega) ?_ | refine gsplit.dec (fun hc => ?_) (fun hc => ?_) | refine gsplit.ndec (fun hc => ?_) (fun hc => ?_) | refine gsplit.eq (fun hc => ?_) (fun hc => ?_) | refine gsplit.neq (fun hc => ?_) (fun hc => ?_))
    | (show YQ _ _ _ _ _ _; first | refine qeqp Try.underlying25 ?_ | refine qeqp Try.underlying29 ?_ | refine YQ.idxS tabOk rfl ha st.1 (List.getElem?_eq_getElem (by omega)) (by omega) (fun ad hd => ?_) | refine YQ.loadS tabOk hd rfl rfl ?_ | refine YQ.loadU tabOk rfl 0 i st.2 rfl (frames4 hst.2.1) (by have := hst.2.1; omega) ?_ | refine YQ.loadU tabOk rfl 1 i (storeL 4 st.2 a s v) rfl (frames4 (storeL_len hst.2.1)) (by have := storeL_len (a := a) (s := s) (v := v) hst.2.1; omega) ?_ | refine YQ.remN (by omega) ?_ | refine YQ.quoN (by omega) ?_ | refine YQ.len tabOk rfl ?_ | refine YQ.idx tabOk rfl (by omega) ?_ | refine YQ.idxA tabOk rfl (by omega) ?_ | refine YQ.sliceA tabOk rfl (by omega) (by omega) ?_ | refine YQ.sliceAll tabOk rfl ?_ | refine YQ.load1 tabOk rfl 0 rfl rfl ?_ | refine YQ.load1 tabOk rfl 1 rfl rfl ?_ | refine YQ.load1 tabOk rfl 2 rfl rfl ?_ | refine YQ.load1 tabOk rfl 3 rfl rfl ?_ | refine YQ.load1 tabOk rfl 4 rfl rfl ?_ | refine YQ.load1 tabOk rfl 5 rfl rfl ?_ | refine YQ.loadF tabOk rfl 0 rfl rfl ?_ | refine YQ.loadF tabOk rfl 1 rfl rfl ?_ | refine YQ.loadF tabOk rfl 2 rfl rfl ?_ | refine YQ.loadF tabOk rfl 3 rfl rfl ?_ | refine YQ.loadF tabOk rfl 4 rfl rfl ?_ | refine YQ.loadF tabOk rfl 5 rfl rfl ?_ | refine YQ.loadA tabOk rfl 0 rfl rfl rfl ?_ | refine YQ.loadA tabOk rfl 1 rfl rfl rfl ?_ | refine YQ.loadA tabOk rfl 2 rfl rfl rfl ?_ | refine YQ.loadA tabOk rfl 3 rfl rfl rfl ?_ | refine YQ.loadA tabOk rfl 4 rfl rfl rfl ?_ | refine YQ.build tabOk rfl rfl rfl ?_ | refine YQ.eqF tabOk rfl rfl rfl ?_ | refine YQ.neF tabOk rfl rfl rfl ?_)
    | (show YC _ _ _ _ _ _ _; first | refine YC.conR [] [] rfl rfl (fun w _ _ => awake1_con w) (fun x L' hx => ?_) | refine YC.conR [] [] rfl rfl (fun w _ _ => ramNew_ok 4 4 (by omega) w) (fun x L' hx => ?_) | refine YC.conR [] [] rfl rfl (fun w _ _ => refNew_ok 4 4 (by omega) w) (fun x L' hx => ?_) | refine YC.conR [0, 1, 2, 3] _ rfl rfl (fun w hw0 hw => rdoes_raw _ _ _ _ 4 (by omega) st.2 hst.2.2 hst.2.1 _ w (Arr.apart (g := u8V) (n := 1) (is := [0, 1, 2, 3]) (fun _ => rfl) (by omega) hw0 rfl (RAw.ha _)) hw) (fun x L' hx => ?_) | refine YC.conR [0, 1] _ rfl rfl (fun w hw0 hw => frame_at _ _ 4 (by omega) st.2 hst.2.1 _ 0 (by omega) w hw) (fun x L' hx => ?_) | refine YC.conR [0, 1] _ rfl rfl (fun w hw0 hw => frame_at _ _ 4 (by omega) st.2 hst.2.1 _ 1 (by omega) w hw) (fun x L' hx => ?_) | refine YC.conR [0, 1] _ rfl rfl (fun w hw0 hw => frame_at _ _ 4 (by omega) st.2 hst.2.1 _ 2 (by omega) w hw) (fun x L' hx => ?_) | refine YC.conR [0, 1] _ rfl rfl (fun w hw0 hw => frame_at _ _ 4 (by omega) st.2 hst.2.1 _ 3 (by omega) w hw) (fun x L' hx => ?_) | refine YC.conR [0, 1] _ rfl rfl (fun w hw0 hw => frame_at _ _ 4 (by omega) (storeL 4 st.2 a s v) (by rw [storeL_length]; exact hst.2.1) _ 0 (by omega) w hw) (fun x L' hx => ?_) | refine YC.conR [0, 1] _ rfl rfl (fun w hw0 hw => frame_at _ _ 4 (by omega) (storeL 4 st.2 a s v) (by rw [storeL_length]; exact hst.2.1) _ 1 (by omega) w hw) (fun x L' hx => ?_) | refine YC.conR [0, 1] _ rfl rfl (fun w hw0 hw => frame_at _ _ 4 (by omega) (storeL 4 st.2 a s v) (by rw [storeL_length]; exact hst.2.1) _ 2 (by omega) w hw) (fun x L' hx => ?_) | refine YC.conR [0, 1] _ rfl rfl (fun w hw0 hw => frame_at _ _ 4 (by omega) (storeL 4 st.2 a s v) (by rw [storeL_length]; exact hst.2.1) _ 3 (by omega) w hw) (fun x L' hx => ?_) | refine YC.conR [0, 1] _ rfl rfl (fun w hw0 hw => store_con _ _ 4 (by omega) st.2 hst.2.1 a s v hv w hw) (fun x L' hx => ?_))
    | (show YW _ _ _ _ _ _; first | refine YW.appU0 (frm st.2 0) ⟨by omega, by omega, (F4.of hst.2.1).l0⟩ (rdyF tU 2 rfl (F4.of hst.2.1).l0) (fun b' cap' sl' h1 => ?_) | refine YW.appU (frm st.2 0) (frm st.2 1) 128 3 rfl (by have := F4.of hst.2.1; exact ⟨by assumption, this.l0, rfl, by omega, this.l1⟩) (rdyF tU 4 rfl (F4.of hst.2.1).l1) (fun b' cap' sl' h1 => ?_) | refine YW.appU (frm st.2 0 ++ frm st.2 1) (frm st.2 2) 192 3 rfl (by have := F4.of hst.2.1; exact ⟨by assumption, this.s1, rfl, by omega, this.l2⟩) (rdyF tU 5 rfl (F4.of hst.2.1).l2) (fun b' cap' sl' h1 => ?_) | refine YW.appU ((frm st.2 0 ++ frm st.2 1) ++ frm st.2 2) (frm st.2 3) 256 3 rfl (by have := F4.of hst.2.1; exact ⟨by assumption, this.s2, rfl, by omega, this.l3⟩) (rdyF tU 6 rfl (F4.of hst.2.1).l3) (fun b' cap' sl' h1 => ?_) | refine YW.appU0 (frm (storeL 4 st.2 a s v) 0) ⟨by omega, by omega, (F4.of (X := storeL 4 st.2 a s v) (storeL_len hst.2.1)).l0⟩ (rdyF tU 3 rfl (F4.of (X := storeL 4 st.2 a s v) (storeL_len hst.2.1)).l0) (fun c' dap' tl' h1 => ?_) | refine YW.appU (frm (storeL 4 st.2 a s v) 0) (frm (storeL 4 st.2 a s v) 1) 128 4 rfl (by have := F4.of (X := storeL 4 st.2 a s v) (storeL_len hst.2.1); exact ⟨by assumption, this.l0, rfl, by omega, this.l1⟩) (rdyF tU 5 rfl (F4.of (X := storeL 4 st.2 a s v) (storeL_len hst.2.1)).l1) (fun c' dap' tl' h1 => ?_) | refine YW.appU (frm (storeL 4 st.2 a s v) 0 ++ frm (storeL 4 st.2 a s v) 1) (frm (storeL 4 st.2 a s v) 2) 192 4 rfl (by have := F4.of (X := storeL 4 st.2 a s v) (storeL_len hst.2.1); exact ⟨by assumption, this.s1, rfl, by omega, this.l2⟩) (rdyF tU 6 rfl (F4.of (X := storeL 4 st.2 a s v) (storeL_len hst.2.1)).l2) (fun c' dap' tl' h1 => ?_) | refine YW.appU ((frm (storeL 4 st.2 a s v) 0 ++ frm (storeL 4 st.2 a s v) 1) ++ frm (storeL 4 st.2 a s v) 2) (frm (storeL 4 st.2 a s v) 3) 256 4 rfl (by have := F4.of (X := storeL 4 st.2 a s v) (storeL_len hst.2.1); exact ⟨by assumption, this.s2, rfl, by omega, this.l3⟩) (rdyF tU 7 rfl (F4.of (X := storeL 4 st.2 a s v) (storeL_len hst.2.1)).l3) (fun c' dap' tl' h1 => ?_))
    | (show YU _ _ _ _ _ _ _ _; first | refine YU.store1L tabOk rfl rfl 0 rfl rfl ?_ | refine YU.store1L tabOk rfl rfl 1 rfl rfl ?_ | refine YU.store1L tabOk rfl rfl 2 rfl rfl ?_ | refine YU.store1L tabOk rfl rfl 3 rfl rfl ?_ | refine YU.store1L tabOk rfl rfl 4 rfl rfl ?_ | refine YU.storeF tabOk rfl rfl rfl 0 rfl rfl ?_ | refine YU.storeF tabOk rfl rfl rfl 1 rfl rfl ?_ | refine YU.storeF tabOk rfl rfl rfl 2 rfl rfl ?_ | refine YU.storeF tabOk rfl rfl rfl 3 rfl rfl ?_ | refine YU.storeF tabOk rfl rfl rfl 4 rfl rfl ?_ | refine YU.storeF tabOk rfl rfl rfl 5 rfl rfl ?_ | refine YU.storeAL tabOk rfl rfl rfl 0 rfl rfl ?_ | refine YU.storeAL tabOk rfl rfl rfl 1 rfl rfl ?_ | refine YU.storeAL tabOk rfl rfl rfl 2 rfl rfl ?_ | refine YU.storeAL tabOk rfl rfl rfl 3 rfl rfl ?_ | refine YU.storeAL tabOk rfl rfl rfl 4 rfl rfl ?_)
    | (show Wr _ _ _; first | refine Wr.i64 (by have hb : bad 4 a s = 0 := (by assumption); have hf := fine_of hb; have h1 := hf.room; have h2 := hf.lo; rcases hf.size with h | h | h <;> omega) ?_ | refine Wr.i64 (by omega) ?_ | refine Wr.u8 (by omega) ?_ | refine Wr.u16 (by omega) ?_ | refine Wr.u32 (by omega) ?_)
    | (show BIf _ _ _; first | refine BIf.pos rfl ?_ | refine BIf.neg rfl ?_)
    | (show Lp _ _ _ _ _; first | refine Lp.mk (α := Nat × List Int) [14] [0, 1, 2, 3, 9, 10, 12] _ (fun x => [.int .i64 x.1]) (fun x => [ramE _ _ 4, frE _ x.2, refE _ _ 4, byE _ x.2]) (fun x => x.1 ≤ 100 ∧ x.2.length = 4 * 64 ∧ By x.2) (fun x => 100 - x.1) rfl rfl ⟨0, List.replicate (4 * 64) 0⟩ ⟨by simp, by simp, By.rep _⟩ rfl ⟨_, rfl⟩ (fun st hst => ?_) | refine Lp.sub (α := Nat) [24] [1, 2, 9, 15, 16, 20] _ (fun i => [.int .i64 i]) (fun i => [⟨b', 5, ints .u8 (((frm st.2 0 ++ frm st.2 1) ++ frm st.2 2) ++ frm st.2 3) ++ sl'⟩, ⟨c', 5, ints .u8 (((frm (storeL 4 st.2 a s v) 0 ++ frm (storeL 4 st.2 a s v) 1) ++ frm (storeL 4 st.2 a s v) 2) ++ frm (storeL 4 st.2 a s v) 3) ++ tl'⟩]) (fun i => i ≤ 256) (fun i => 256 - i) rfl rfl 0 (by omega) rfl ⟨[2, 4], rfl, rfl⟩ (fun i hi => ?_) | (refine Lp.prune [1, 2, 9, 10, 15, 16, 20, 21] _ _ rfl ⟨[0, 1, 3], rfl, rfl⟩ ?_; refine Lp.rounds 6 ?_) | (refine Lp.prune [1, 2, 3, 9, 10, 15, 16, 17] _ _ rfl ⟨[0, 1], rfl, rfl⟩ ?_; refine Lp.rounds 6 ?_))
    | (show Dr _ _ _ _ _ _ _ _ _; first | refine Dr.all (by kernel_rfl) ?_)
    | (show Vc.Fin _ _ _; first | refine Fin.take 0 (And.intro ?_ rfl))
    | refine ⟨⟨st.1 + 1, rdoX 4 st.2 (RAw.x _) (RAw.bs _)⟩, ⟨by show st.1 + 1 ≤ 100; omega, rdoX_length hst.2.1 _ _, By.rdo hst.2.2 (RAw.by_ _) hst.2.1 _⟩, by show 100 - (st.1 + 1) < 100 - st.1; omega, rfl, ⟨_, rfl⟩⟩
    | refine ⟨i + 1, by omega, by omega, rfl, [0, 1], rfl, rfl⟩
    | intro b)
  all_goals first
    | rfl
    | (show Value.bool _ = Value.bool _; congr 1; simp; done)
    | contradiction
    | (exfalso; omega)
    | (exfalso; exact absurd (storeL_apart hst.2.1 a s v i (by omega)).symm (by assumption))
    | (exfalso; exact absurd (storeL_apart hst.2.1 a s v i (by omega)) (by assumption))
theorem ramApart_walk (a0 : Option Addr) (len0 cap0 n0 : Nat) {W : World} (rd0 : Rd Try.prog W n0 22 (Value.slice a0 len0 cap0).cells.toList) (a1 : Int) (w1 : (Lit.int .i64 a1).wf = true) (a2 : Int) (w2 : (Lit.int .i64 a2).wf = true) (a3 : Int) (w3 : (Lit.int .u32 a3).wf = true) :
    Calls Try.prog 3 #[.slice a0 len0 cap0, .int .i64 a1, .int .i64 a2, .int .u32 a3] W fun e w' => e = .returned (.bool true) ∧ RowKit.Below W.heap.size W w' := by
  obtain ⟨acts, h1, h2, h3, h4⟩ := rd_raws rd0
  exact (ramApart_con a0 len0 cap0 W acts h1 h4 a1 a2 a3 (wf_u32 w3)).law
end Go.Proofs.Ytfamidjdhahfiaa
