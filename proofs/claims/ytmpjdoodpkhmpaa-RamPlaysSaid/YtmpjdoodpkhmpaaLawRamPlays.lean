/- 'viceroylaw01.RamPlays' answers true at every size and every list of acts. Conditions: none beside the row's own. -/
import Derived.Test.YtmpjdoodpkhmpaaRows
import Derived.Test.YtmpjdoodpkhmpaaLawRamBack
set_option linter.unusedVariables false
set_option linter.unusedSimpArgs false
set_option linter.unusedSectionVars false
set_option maxRecDepth 10000
set_option maxHeartbeats 4000000
namespace Go.Proofs.Ytmpjdoodpkhmpaa
open Vc Mem
/-- An act that was handed in: its bytes stand in memory. -/
structure RAw (W : World) where
  x : RAc
  bs : List Int
  hb : bs.length = x.bl
  hm : x.bl ≤ reachBytes
  ha : Arr W 1 u8V x.b bs
  by_ : By bs
  hw : 0 ≤ x.w ∧ x.w ≤ 4294967295
def rawV {W : World} (x : RAw W) : List Value := racV x.x
theorem rd_bytes {W : World} {n : Nat} {a : Option Addr} {len cap : Nat} (h : Rd Try.prog W n 55 (Value.slice a len cap).cells.toList) : ∃ bs : List Int, bs.length = len ∧ len ≤ cap ∧ len ≤ reachBytes ∧ Arr W 1 u8V a bs ∧ By bs := by
  obtain ⟨ls, h1, h2, h3, h4⟩ := rd_arr (α := { x : Int // 0 ≤ x ∧ x ≤ 255 }) (m := 1) (g := fun x => u8V x.1) h Try.underlying55 (by kernel_rfl) (fun k es hl hR => by
    obtain ⟨x, hx, hw⟩ := rd_int hR Try.underlying5
    exact ⟨⟨x, wf_u8 hw⟩, hx⟩)
  have hb : Try.prog.bytesOf 5 = 1 := by kernel_rfl
  rw [hb, Nat.mul_one] at h3
  refine ⟨ls.map (·.1), by simpa using h1, h2, h3, ?_, ?_⟩
  · intro j x hj
    rw [List.getElem?_map] at hj
    obtain ⟨y, hy, rfl⟩ := Option.map_eq_some_iff.1 hj
    exact h4 j y hy
  · intro j x hj
    rw [List.getElem?_map] at hj
    obtain ⟨y, hy, rfl⟩ := Option.map_eq_some_iff.1 hj
    exact y.2
theorem rd_raw {W : World} {n : Nat} {cs : List Value} (h : Rd Try.prog W n 78 cs) : ∃ x : RAw W, cs = rawV x := by
  obtain ⟨hl, m, hf⟩ := rd_struct h Try.underlying78
  have hc : Try.prog.cellsOf 78 = 5 := by kernel_rfl
  have hi : Try.prog.cellsOf 3 = 1 := by kernel_rfl
  have hu : Try.prog.cellsOf 46 = 1 := by kernel_rfl
  have hs : Try.prog.cellsOf 55 = 1 := by kernel_rfl
  rw [hc] at hl
  obtain ⟨c0, c1, c2, c3, c4, rfl⟩ : ∃ a b c d e, cs = [a, b, c, d, e] := by
    match cs, hl with
    | [a, b, c, d, e], _ => exact ⟨a, b, c, d, e, rfl⟩
  obtain ⟨d, h0, -⟩ := rd_int (hf 0 _ rfl) Try.underlying3
  obtain ⟨a, h1, -⟩ := rd_int (hf 1 _ rfl) Try.underlying3
  obtain ⟨s, h2, -⟩ := rd_int (hf 2 _ rfl) Try.underlying3
  obtain ⟨v, h3, hv⟩ := rd_int (hf 3 _ rfl) Try.underlying46
  have h4 := hf 4 _ rfl
  simp [hi] at h0 h1 h2
  simp [hu] at h3
  simp [hs] at h4
  obtain ⟨b, bl, bc, rfl⟩ : ∃ b bl bc, c4 = .slice b bl bc := by
    rcases rd_slice h4 Try.underlying55 with h5 | ⟨ad, len, cap, k, h5, _⟩
    · simp at h5; exact ⟨_, _, _, h5⟩
    · simp at h5; exact ⟨_, _, _, h5⟩
  obtain ⟨bs, g1, g2, g3, g4, g5⟩ := rd_bytes (a := b) (len := bl) (cap := bc) h4
  exact ⟨⟨⟨d, a, s, v, b, bl, bc⟩, bs, g1, g3, g4, g5, wf_u32 hv⟩, by rw [h0, h1, h2, h3]; rfl⟩
theorem rd_raws {W : World} {n : Nat} {a : Option Addr} {len cap : Nat} (h : Rd Try.prog W n 72 (Value.slice a len cap).cells.toList) : ∃ acts : List (RAw W), acts.length = len ∧ len ≤ cap ∧ True ∧ Arr W 5 rawV a acts := by
  obtain ⟨acts, h1, h2, h3, h4⟩ := rd_arr h Try.underlying72 (by kernel_rfl) (fun k es hl hR => rd_raw hR)
  exact ⟨acts, h1, h2, trivial, h4⟩
theorem reach_le {x : Nat} (h : x ≤ reachBytes) : x ≤ 140737488355328 := Nat.le_trans h (by decide)
theorem rdoes_raw (p F q B n : Nat) (hn : n ≤ 1024) (xs : List Int) (hx0 : By xs) (hl : xs.length = n * 64) {W : World} (x : RAw W) (w : World) (ha : ArrF w [p, F, q, B] 1 u8V x.x.b x.bs) (hw : Own w [ramE p F n, frE F xs, refE q B n, byE B xs]) :
    Con Try.prog 56 [.pointer (some ⟨p, 0, none⟩), .pointer (some ⟨q, 0, none⟩), .agg (rawV x).toArray] w [ramE p F n, frE F xs, refE q B n, byE B xs]
      (fun y L' => y = .bool true ∧ L' = [ramE p F n, frE F (rdoX n xs x.x x.bs), refE q B n, byE B (rdoX n xs x.x x.bs)]) :=
  rdoes_con p F q B n hn xs hx0 hl x.x x.hw x.bs x.hb (reach_le x.hm) w ha hw
theorem ramPlays_con (k : Int) (a : Option Addr) (len cap : Nat) (w : World) (acts : List (RAw w)) (hlen : acts.length = len) (ha : Arr w 5 rawV a acts) :
    Con Try.prog 17 [.int .i64 k, .slice a len cap] w [] (fun y L' => y = .bool true ∧ L' = []) := by
  by_cases hk : k < 1 ∨ 1024 < k
  · refine Con.of_vc tabOk 102 [.tmp 4] Try.func17 rfl Try.ntmps17 Try.results17 rfl (Own.nil' w) ?_
    repeat' ((conv => whnf); first
      | refine YC.conR [] [] rfl rfl (fun w _ _ => awake1_con w) (fun x L' hx => ?_)
      | refine YC.conR [] [] rfl rfl (fun w _ _ => ramNew_no k hk w) (fun x L' hx => ?_)
      | refine YC.conR [] [] rfl rfl (fun w _ _ => refNew_no k hk w) (fun x L' hx => ?_)
      | refine qeqp Try.underlying47 ?_
      | refine qeqp Try.underlying73 ?_
      | refine qneb Try.underlying4 ?_
      | refine Fin.take 0 (And.intro ?_ rfl)
      | (obtain ⟨rfl, rfl⟩ := hx; refine ⟨rfl, ?_⟩)
      | (obtain ⟨b, rfl, rfl⟩ := hx; refine ⟨rfl, ?_⟩)
      | (obtain ⟨b, c, rfl, rfl⟩ := hx; refine ⟨rfl, ?_⟩)
      | refine gsplit.tt ?_
      | refine gsplit.ff ?_
      | refine gsplit.dpos (by omega) ?_
      | refine gsplit.dneg (by omega) ?_
      | refine gsplit.npos (by omega) ?_
      | refine gsplit.nneg (by omega) ?_
      | refine gsplit.dec (fun hc => ?_) (fun hc => ?_)
      | refine gsplit.ndec (fun hc => ?_) (fun hc => ?_)
      | refine BIf.pos rfl ?_
      | refine BIf.neg rfl ?_
      | refine Wr.i64 (by omega) ?_
      | refine Wr.u8 (by omega) ?_
      | refine Wr.u16 (by omega) ?_
      | refine Wr.u32 (by omega) ?_
      | refine YQ.remN (by omega) ?_
      | refine YQ.quoN (by omega) ?_
      | refine YQ.len tabOk rfl ?_
      | refine YQ.idx tabOk rfl (by omega) ?_
      | refine YQ.idxA tabOk rfl (by omega) ?_
      | refine YQ.sliceA tabOk rfl (by omega) (by omega) ?_
      | refine YQ.sliceAll tabOk rfl ?_
      | refine YQ.load1 tabOk rfl 0 rfl rfl ?_
      | refine YQ.load1 tabOk rfl 1 rfl rfl ?_
      | refine YQ.load1 tabOk rfl 2 rfl rfl ?_
      | refine YQ.load1 tabOk rfl 3 rfl rfl ?_
      | refine YQ.load1 tabOk rfl 4 rfl rfl ?_
      | refine YQ.load1 tabOk rfl 5 rfl rfl ?_
      | refine YQ.loadF tabOk rfl 0 rfl rfl ?_
      | refine YQ.loadF tabOk rfl 1 rfl rfl ?_
      | refine YQ.loadF tabOk rfl 2 rfl rfl ?_
      | refine YQ.loadF tabOk rfl 3 rfl rfl ?_
      | refine YQ.loadF tabOk rfl 4 rfl rfl ?_
      | refine YQ.loadF tabOk rfl 5 rfl rfl ?_
      | refine YQ.loadA tabOk rfl 0 rfl rfl rfl ?_
      | refine YQ.loadA tabOk rfl 1 rfl rfl rfl ?_
      | refine YQ.loadA tabOk rfl 2 rfl rfl rfl ?_
      | refine YQ.loadA tabOk rfl 3 rfl rfl rfl ?_
      | refine YQ.loadA tabOk rfl 4 rfl rfl rfl ?_
      | refine YU.store1L tabOk rfl rfl 0 rfl rfl ?_
      | refine YU.store1L tabOk rfl rfl 1 rfl rfl ?_
      | refine YU.store1L tabOk rfl rfl 2 rfl rfl ?_
      | refine YU.store1L tabOk rfl rfl 3 rfl rfl ?_
      | refine YU.store1L tabOk rfl rfl 4 rfl rfl ?_
      | refine YU.storeF tabOk rfl rfl rfl 0 rfl rfl ?_
      | refine YU.storeF tabOk rfl rfl rfl 1 rfl rfl ?_
      | refine YU.storeF tabOk rfl rfl rfl 2 rfl rfl ?_
      | refine YU.storeF tabOk rfl rfl rfl 3 rfl rfl ?_
      | refine YU.storeF tabOk rfl rfl rfl 4 rfl rfl ?_
      | refine YU.storeF tabOk rfl rfl rfl 5 rfl rfl ?_
      | refine YU.storeAL tabOk rfl rfl rfl 0 rfl rfl ?_
      | refine YU.storeAL tabOk rfl rfl rfl 1 rfl rfl ?_
      | refine YU.storeAL tabOk rfl rfl rfl 2 rfl rfl ?_
      | refine YU.storeAL tabOk rfl rfl rfl 3 rfl rfl ?_
      | refine YU.storeAL tabOk rfl rfl rfl 4 rfl rfl ?_
      | refine YQ.build tabOk rfl rfl rfl ?_
      | refine YQ.eqF tabOk rfl rfl rfl ?_
      | refine YQ.neF tabOk rfl rfl rfl ?_
      | refine gsplit.eq (fun hc => ?_) (fun hc => ?_)
      | refine gsplit.neq (fun hc => ?_) (fun hc => ?_)
      | refine Dr.all (by kernel_rfl) ?_
      | intro b)
    all_goals rfl
  obtain ⟨n, rfl⟩ := Int.eq_ofNat_of_zero_le (show 0 ≤ k by omega)
  have hn : 1 ≤ n ∧ n ≤ 1024 := by omega
  refine Con.of_vc tabOk 102 [.tmp 4] Try.func17 rfl Try.ntmps17 Try.results17 rfl (Own.nil' w) ?_
  repeat' ((conv => whnf); first
    | refine YC.conR [] [] rfl rfl (fun w _ _ => awake1_con w) (fun x L' hx => ?_)
    | refine YC.conR [] [] rfl rfl (fun w _ _ => ramNew_ok (n : Int) n ⟨rfl, hn⟩ w) (fun x L' hx => ?_)
    | refine YC.conR [] [] rfl rfl (fun w _ _ => refNew_ok (n : Int) n ⟨rfl, hn⟩ w) (fun x L' hx => ?_)
    | refine qeqp Try.underlying47 ?_
    | refine qeqp Try.underlying73 ?_
    | refine qneb Try.underlying4 ?_
    | refine Lp.mk (α := Nat × List Int) [10] [1, 5, 6, 8] _ (fun x => [.int .i64 x.1]) (fun x => [ramE _ _ n, frE _ x.2, refE _ _ n, byE _ x.2]) (fun x => x.1 ≤ 300 ∧ x.2.length = n * 64 ∧ By x.2) (fun x => 300 - x.1) rfl rfl ⟨0, List.replicate (n * 64) 0⟩ ⟨by simp, by simp, By.rep _⟩ rfl ⟨_, rfl⟩ (fun st hst => ?_)
    | refine YQ.idxS tabOk rfl ha st.1 (List.getElem?_eq_getElem (by omega)) (by omega) (fun ad hd => ?_)
    | refine YQ.loadS tabOk hd rfl rfl ?_
    | refine YC.conR [0, 1, 2, 3] _ rfl rfl (fun w hw0 hw => rdoes_raw _ _ _ _ n hn.2 st.2 hst.2.2 hst.2.1 _ w (Arr.apart (g := u8V) (n := 1) (is := [0, 1, 2, 3]) (fun _ => rfl) (by omega) hw0 rfl (RAw.ha _)) hw) (fun x L' hx => ?_)
    | refine ⟨⟨st.1 + 1, rdoX n st.2 (RAw.x _) (RAw.bs _)⟩, ⟨by show st.1 + 1 ≤ 300; omega, rdoX_length hst.2.1 _ _, By.rdo hst.2.2 (RAw.by_ _) hst.2.1 _⟩, by show 300 - (st.1 + 1) < 300 - st.1; omega, rfl, ⟨_, rfl⟩⟩
    | refine YC.conR [0] _ rfl rfl (fun w hw0 hw => frames_con _ _ n hn.2 w hw) (fun x L' hx => ?_)
    | refine YC.conR [2] _ rfl rfl (fun w hw0 hw => rframes_con _ _ n hn.2 w hw) (fun x L' hx => ?_)
    | refine Lp.mk (α := Nat) [13] [5, 6, 8, 12] _ (fun i => [.int .i64 i]) (fun i => [ramE _ _ n, frE _ st.2, refE _ _ n, byE _ st.2]) (fun i => i ≤ n) (fun i => n - i) rfl rfl 0 (by omega) rfl ⟨_, rfl⟩ (fun i hi => ?_)
    | refine YC.conR [0, 1] _ rfl rfl (fun w hw0 hw => frame_ok _ _ n hn.2 st.2 hst.2.1 i (by unfold thereP; omega) w hw) (fun x L' hx => ?_)
    | refine YC.conR [2, 3] _ rfl rfl (fun w hw0 hw => rframe_ok _ _ n hn.2 st.2 hst.2.1 i (by unfold thereP; omega) w hw) (fun x L' hx => ?_)
    | (obtain ⟨rfl, rfl⟩ := hx; refine ⟨rfl, ?_⟩)
    | (obtain ⟨b, rfl, rfl⟩ := hx; refine ⟨rfl, ?_⟩)
    | (obtain ⟨b, c, rfl, rfl⟩ := hx; refine ⟨rfl, ?_⟩)
    | (obtain ⟨b, c, sl, hc64, rfl, rfl⟩ := hx; refine ⟨rfl, ?_⟩)
    | refine YC.conR [] [] rfl rfl (fun w hw0 _ => same64 _ _ (frm_length hst.2.1 (k := i) (by omega)) (frm_length hst.2.1 (k := i) (by omega)) _ _ _ _ w (hw0.bytes 4 rfl) (hw0.arr (ls := frm st.2 i) (tl := sl) (fun _ => rfl) 5 (by rw [rows_u8]; rfl))) (fun x L' hx => ?_)
    | refine ⟨i + 1, by omega, by omega, rfl, ⟨_, rfl⟩⟩
    | refine Fin.take 0 (And.intro ?_ rfl)
    | (obtain ⟨rfl, rfl⟩ := hx; refine ⟨rfl, ?_⟩)
    | (obtain ⟨b, rfl, rfl⟩ := hx; refine ⟨rfl, ?_⟩)
    | (obtain ⟨b, c, rfl, rfl⟩ := hx; refine ⟨rfl, ?_⟩)
    | refine gsplit.tt ?_
    | refine gsplit.ff ?_
    | refine gsplit.dpos (by omega) ?_
    | refine gsplit.dneg (by omega) ?_
    | refine gsplit.npos (by omega) ?_
    | refine gsplit.nneg (by omega) ?_
    | refine gsplit.dec (fun hc => ?_) (fun hc => ?_)
    | refine gsplit.ndec (fun hc => ?_) (fun hc => ?_)
    | refine BIf.pos rfl ?_
    | refine BIf.neg rfl ?_
    | refine Wr.i64 (by omega) ?_
    | refine Wr.u8 (by omega) ?_
    | refine Wr.u16 (by omega) ?_
    | refine Wr.u32 (by omega) ?_
    | refine YQ.remN (by omega) ?_
    | refine YQ.quoN (by omega) ?_
    | refine YQ.len tabOk rfl ?_
    | refine YQ.idx tabOk rfl (by omega) ?_
    | refine YQ.idxA tabOk rfl (by omega) ?_
    | refine YQ.sliceA tabOk rfl (by omega) (by omega) ?_
    | refine YQ.sliceAll tabOk rfl ?_
    | refine YQ.load1 tabOk rfl 0 rfl rfl ?_
    | refine YQ.load1 tabOk rfl 1 rfl rfl ?_
    | refine YQ.load1 tabOk rfl 2 rfl rfl ?_
    | refine YQ.load1 tabOk rfl 3 rfl rfl ?_
    | refine YQ.load1 tabOk rfl 4 rfl rfl ?_
    | refine YQ.load1 tabOk rfl 5 rfl rfl ?_
    | refine YQ.loadF tabOk rfl 0 rfl rfl ?_
    | refine YQ.loadF tabOk rfl 1 rfl rfl ?_
    | refine YQ.loadF tabOk rfl 2 rfl rfl ?_
    | refine YQ.loadF tabOk rfl 3 rfl rfl ?_
    | refine YQ.loadF tabOk rfl 4 rfl rfl ?_
    | refine YQ.loadF tabOk rfl 5 rfl rfl ?_
    | refine YQ.loadA tabOk rfl 0 rfl rfl rfl ?_
    | refine YQ.loadA tabOk rfl 1 rfl rfl rfl ?_
    | refine YQ.loadA tabOk rfl 2 rfl rfl rfl ?_
    | refine YQ.loadA tabOk rfl 3 rfl rfl rfl ?_
    | refine YQ.loadA tabOk rfl 4 rfl rfl rfl ?_
    | refine YU.store1L tabOk rfl rfl 0 rfl rfl ?_
    | refine YU.store1L tabOk rfl rfl 1 rfl rfl ?_
    | refine YU.store1L tabOk rfl rfl 2 rfl rfl ?_
    | refine YU.store1L tabOk rfl rfl 3 rfl rfl ?_
    | refine YU.store1L tabOk rfl rfl 4 rfl rfl ?_
    | refine YU.storeF tabOk rfl rfl rfl 0 rfl rfl ?_
    | refine YU.storeF tabOk rfl rfl rfl 1 rfl rfl ?_
    | refine YU.storeF tabOk rfl rfl rfl 2 rfl rfl ?_
    | refine YU.storeF tabOk rfl rfl rfl 3 rfl rfl ?_
    | refine YU.storeF tabOk rfl rfl rfl 4 rfl rfl ?_
    | refine YU.storeF tabOk rfl rfl rfl 5 rfl rfl ?_
    | refine YU.storeAL tabOk rfl rfl rfl 0 rfl rfl ?_
    | refine YU.storeAL tabOk rfl rfl rfl 1 rfl rfl ?_
    | refine YU.storeAL tabOk rfl rfl rfl 2 rfl rfl ?_
    | refine YU.storeAL tabOk rfl rfl rfl 3 rfl rfl ?_
    | refine YU.storeAL tabOk rfl rfl rfl 4 rfl rfl ?_
    | refine YQ.build tabOk rfl rfl rfl ?_
    | refine YQ.eqF tabOk rfl rfl rfl ?_
    | refine YQ.neF tabOk rfl rfl rfl ?_
    | refine gsplit.eq (fun hc => ?_) (fun hc => ?_)
    | refine gsplit.neq (fun hc => ?_) (fun hc => ?_)
    | refine Dr.all (by kernel_rfl) ?_
    | intro b)
  all_goals first
    | rfl
    | (show Value.bool _ = Value.bool _; congr 1; simp; done)
    | contradiction
    | (exfalso; omega)
theorem ramPlays_walk (a0 : Int) (w0 : (Lit.int .i64 a0).wf = true) (a1 : Option Addr) (len1 cap1 n1 : Nat) {W : World} (rd1 : Rd Try.prog W n1 72 (Value.slice a1 len1 cap1).cells.toList) :
    Calls Try.prog 17 #[.int .i64 a0, .slice a1 len1 cap1] W fun e w' => e = .returned (.bool true) ∧ RowKit.Below W.heap.size W w' := by
  obtain ⟨acts, h1, h2, h3, h4⟩ := rd_raws rd1
  exact (ramPlays_con a0 a1 len1 cap1 W acts h1 h4).law
end Go.Proofs.Ytmpjdoodpkhmpaa
