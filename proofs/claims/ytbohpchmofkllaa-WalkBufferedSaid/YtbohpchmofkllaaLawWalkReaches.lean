/- 'viceroylaw04.WalkReaches' answers true at every input. Conditions: none beside the row's own. -/
import Derived.Test.YtbohpchmofkllaaWalkR
import Derived.Test.YtbohpchmofkllaaWalkT
set_option linter.unusedVariables false
set_option linter.unusedSimpArgs false
set_option maxRecDepth 10000
set_option maxHeartbeats 16000000
namespace Go.Proofs.Ytbohpchmofkllaa
open Vc Mem
/-- A page that is asked for; what is laid ahead of it stands in memory. -/
structure As (W : World) where
  s : Sp
  pg : Int
  want : Int
  at_ : Int
  ev : Int
  b : Option Addr
  bl : Nat
  bc : Nat
  us : List Pu
  hb : us.length = bl
  ha : Arr W 8 puV b us
def asV {W : World} (x : As W) : List Value := [.int .i64 x.s.vm, .int .i64 x.s.sid, .int .i64 x.s.fi, .int .i64 x.s.se, .int .i64 x.pg, .int .i64 x.want, .int .i64 x.at_, .int .i64 x.ev, .slice x.b x.bl x.bc]
theorem asV_len {W : World} (x : As W) : (asV x).length = 9 := rfl
theorem rd_ask {W : World} {n : Nat} {cs : List Value} (h : Rd Try.prog W n 63 cs) : ∃ x : As W, cs = asV x := by
  obtain ⟨hl, m, hf⟩ := rd_struct h Try.underlying63
  have hc : Try.prog.cellsOf 63 = 9 := by kernel_rfl
  have hi : Try.prog.cellsOf 3 = 1 := by kernel_rfl
  have hs : Try.prog.cellsOf 24 = 4 := by kernel_rfl
  have hp : Try.prog.cellsOf 22 = 1 := by kernel_rfl
  rw [hc] at hl
  obtain ⟨c0, c1, c2, c3, c4, c5, c6, c7, c8, rfl⟩ : ∃ a b c d e f g i j, cs = [a, b, c, d, e, f, g, i, j] := by
    match cs, hl with
    | [a, b, c, d, e, f, g, i, j], _ => exact ⟨a, b, c, d, e, f, g, i, j, rfl⟩
  have h0 := hf 0 _ rfl
  obtain ⟨pg, h1, -⟩ := rd_int (hf 1 _ rfl) Try.underlying3
  obtain ⟨want, h2, -⟩ := rd_int (hf 2 _ rfl) Try.underlying3
  obtain ⟨at_, h3, -⟩ := rd_int (hf 3 _ rfl) Try.underlying3
  obtain ⟨ev, h4, -⟩ := rd_int (hf 4 _ rfl) Try.underlying3
  have h5 := hf 5 _ rfl
  simp [hi] at h1 h2 h3 h4
  simp [hs] at h0
  simp [hp] at h5
  obtain ⟨b, bl, bc, rfl⟩ : ∃ b bl bc, c8 = .slice b bl bc := by
    rcases rd_slice h5 Try.underlying22 with h6 | ⟨ad, len, cap, k, h6, _⟩
    · simp at h6; exact ⟨_, _, _, h6⟩
    · simp at h6; exact ⟨_, _, _, h6⟩
  obtain ⟨us, g1, g2⟩ := rd_puts (a := b) (len := bl) (cap := bc) h5
  obtain ⟨s, hs2⟩ := rd_space (a := #[c0, c1, c2, c3]) h0
  have hs3 := congrArg Array.toList hs2
  simp [spV] at hs3
  obtain ⟨rfl, rfl, rfl, rfl⟩ := hs3
  exact ⟨⟨s, pg, want, at_, ev, b, bl, bc, us, g1, g2⟩, by rw [h1, h2, h3, h4]; rfl⟩
theorem rd_asks {W : World} {n : Nat} {a : Option Addr} {len cap : Nat} (h : Rd Try.prog W n 59 (Value.slice a len cap).cells.toList) : ∃ acts : List (As W), acts.length = len ∧ Arr W 9 asV a acts := by
  obtain ⟨acts, h1, h2, h3, h4⟩ := rd_arr h Try.underlying59 (by kernel_rfl) (fun k es hl hR => rd_ask hR)
  exact ⟨acts, h1, h4⟩
theorem neB_ln (l : Ln) : (!eqB (lnV l) (lnV l)) = false := by
  have : eqB (lnV l) (lnV l) = true := eqB_true.2 ⟨rfl, rfl, rfl, rfl, rfl, trivial⟩
  rw [this]; rfl
abbrev S8 : List Ln := List.replicate 8 ln0
theorem TI8 : TI S8 := ⟨rfl, fun l hl => .inl (List.eq_of_mem_replicate hl), fun i j x y hx _ h0 _ => absurd (List.eq_of_mem_replicate (List.mem_iff_getElem?.2 ⟨i, hx⟩)) h0⟩
/-- Where the walk stands: bytes and lines. -/
structure Ws where
  i : Nat
  X : List Int
  ls : List Ln
  f : Int
  m : Int
theorem walkReaches_aux (X : List Int) (hl : X.length = 16 * 64) (hB : By X) (us : List Pu) (hX : lay (us.take 200) = X) (a : Option Addr) (len cap : Nat) (w : World) (hlen : us.length = len) (ha : Arr w 8 puV a us) (a1 : Option Addr) (len1 cap1 : Nat) (acts : List (As w)) (hlen1 : acts.length = len1) (ha1 : Arr w 9 asV a1 acts) :
    Con Try.prog 9 [.slice a len cap, .slice a1 len1 cap1] w [] (fun y L' => y = .bool true ∧ L' = []) := by
  refine Con.of_vc tabOk 166 [.tmp 4] Try.func9 rfl Try.ntmps9 Try.results9 rfl (Own.nil' w) ?_
  repeat' ((conv => whnf); first
    | (show _ ∧ _; first | (simp only [hX] at hx) | (obtain ⟨rfl, rfl⟩ := hx; refine ⟨rfl, ?_⟩) | (obtain ⟨b, rfl, rfl⟩ := hx; refine ⟨rfl, ?_⟩) | (obtain ⟨b, c, rfl, rfl⟩ := hx; refine ⟨rfl, ?_⟩) | (obtain ⟨p, F, sl, B, rfl, rfl⟩ := hx; refine ⟨rfl, ?_⟩) | (obtain ⟨rfl, rfl⟩ := hx; refine ⟨rfl, ?_⟩) | (obtain ⟨b, rfl, rfl⟩ := hx; refine ⟨rfl, ?_⟩) | (obtain ⟨b, c, rfl, rfl⟩ := hx; refine ⟨rfl, ?_⟩))
    | (show gsplit _ _ _; first | refine gsplit.neg (neB_fa _) ?_ | refine gsplit.neg (neB_ln _) ?_ | refine gsplit.tt ?_ | refine gsplit.ff ?_ | refine gsplit.dpos (by omega) ?_ | refine gsplit.dneg (by omega) ?_ | refine gsplit.npos (by omega) ?_ | refine gsplit.nneg (by omega) ?_ | refine gsplit.dec (fun hc => ?_) (fun hc => ?_) | refine gsplit.ndec (fun hc => ?_) (fun hc => ?_) | refine gsplit.eq (fun hc => ?_) (fun hc => ?_) | refine gsplit.neq (fun hc => ?_) (fun hc => ?_) | refine gsplit.mk (fun hb => ?_) (fun hb => ?_))
    | (show YQ _ _ _ _ _ _; first | refine qeqp Try.underlying26 ?_ | refine qeqp Try.underlying60 ?_ | refine YQ.idxN tabOk rfl ha1 asV_len (by omega) st.i (List.getElem?_eq_getElem (by omega)) (by omega) (fun ab ao hd => ?_) | refine YQ.loadNA tabOk hd rfl 0 rfl (us := asV _) rfl rfl ?_ | refine YQ.idxN tabOk rfl (As.ha _) puV_len (by omega) kt.1 (List.getElem?_eq_getElem (by have h9 := (acts[st.i]'(by omega)).hb; omega)) (by omega) (fun ab ao hd => ?_) | refine YQ.loadN1 tabOk hd rfl 0 rfl rfl ?_ | refine YQ.loadN1 tabOk hd rfl 1 rfl rfl ?_ | refine YQ.loadNA tabOk hd rfl 2 rfl (us := etV (Pu.x _)) rfl rfl ?_ | refine YQ.loadA tabOk rfl 6 rfl (vs := spV (As.s _)) rfl rfl ?_ | refine YQ.loadF tabOk rfl 8 rfl rfl ?_ | refine YQ.loadRow0 tabOk rfl 6 k rfl lnV_len (List.getElem?_eq_getElem (by rw [(TI_rch (TI_ev hst.2.2.2 _) _ _ _ _ _ _).len]; omega)) (by omega) ?_ | refine YQ.loadRow tabOk rfl 5 k rfl lnV_len (List.getElem?_eq_getElem (by rw [(TI_rch (TI_ev hst.2.2.2 _) _ _ _ _ _ _).len]; omega)) (by omega) ?_ | refine YQ.remN (by omega) ?_ | refine YQ.quoN (by omega) ?_ | refine YQ.len tabOk rfl ?_ | refine YQ.idx tabOk rfl (by omega) ?_ | refine YQ.idxA tabOk rfl (by omega) ?_ | refine YQ.sliceA tabOk rfl (by omega) (by omega) ?_ | refine YQ.sliceAll tabOk rfl ?_ | refine YQ.load1 tabOk rfl 0 rfl rfl ?_ | refine YQ.load1 tabOk rfl 1 rfl rfl ?_ | refine YQ.load1 tabOk rfl 2 rfl rfl ?_ | refine YQ.load1 tabOk rfl 3 rfl rfl ?_ | refine YQ.load1 tabOk rfl 4 rfl rfl ?_ | refine YQ.load1 tabOk rfl 5 rfl rfl ?_ | refine YQ.load1 tabOk rfl 6 rfl rfl ?_ | refine YQ.load1 tabOk rfl 7 rfl rfl ?_ | refine YQ.loadF tabOk rfl 0 rfl rfl ?_ | refine YQ.loadF tabOk rfl 1 rfl rfl ?_ | refine YQ.loadF tabOk rfl 2 rfl rfl ?_ | refine YQ.loadF tabOk rfl 3 rfl rfl ?_ | refine YQ.loadF tabOk rfl 4 rfl rfl ?_ | refine YQ.loadF tabOk rfl 5 rfl rfl ?_ | refine YQ.loadF tabOk rfl 6 rfl rfl ?_ | refine YQ.loadF tabOk rfl 7 rfl rfl ?_ | refine YQ.loadA tabOk rfl 0 rfl rfl rfl ?_ | refine YQ.loadA tabOk rfl 1 rfl rfl rfl ?_ | refine YQ.loadA tabOk rfl 2 rfl rfl rfl ?_ | refine YQ.loadA tabOk rfl 3 rfl rfl rfl ?_ | refine YQ.loadA tabOk rfl 4 rfl rfl rfl ?_ | refine YQ.build tabOk rfl rfl rfl ?_ | refine YQ.eqF tabOk rfl rfl rfl ?_ | refine YQ.neF tabOk rfl rfl rfl ?_)
    | (show YC _ _ _ _ _ _ _; first | refine YC.conR [] [] rfl rfl (fun w _ _ => awake4_con w) (fun x L' hx => ?_) | refine YC.conR [] [] rfl rfl (fun w _ _ => new_con w) (fun x L' hx => ?_) | refine YC.conR [] [] rfl rfl (fun w hw0 _ => laid_con a len cap w us hlen (Arr.later hw0 ha)) (fun x L' hx => ?_) | refine YC.conR [0, 1] _ rfl rfl (fun w hw0 hw => put_con _ _ 16 (by omega) kt.2 hkt.2.1 _ _ _ w hw) (fun x L' hx => ?_) | refine YC.conR [2, 3] _ rfl rfl (fun w hw0 hw => rput_con _ _ 16 (by omega) kt.2 hkt.2.1 _ _ _ w hw) (fun x L' hx => ?_) | refine YC.conR [2, 3] _ rfl rfl (fun w hw0 hw => rput_con _ _ 16 (by omega) (putL 16 kt.2 _ _ _) (putL_length hkt.2.1 _ _ _) _ _ _ w hw) (fun x L' hx => ?_) | refine YC.conR [4] _ rfl rfl (fun w hw0 hw => evict_con _ st.ls hst.2.2.2.len st.f st.m w hw _) (fun x L' hx => ?_) | refine YC.conR [5] _ rfl rfl (fun w hw0 hw => evict_ref _ st.ls hst.2.2.2.len st.f st.m w hw _) (fun x L' hx => ?_) | refine YC.conR [0, 1, 4] _ rfl rfl (fun w hw0 hw => reach_con _ _ 16 (by omega) kt.2 hkt.2.2 hkt.2.1 _ (evL _ st.ls) (TI_ev hst.2.2.2 _) st.f st.m _ _ _ _ w hw) (fun x L' hx => ?_) | refine YC.conR [2, 3, 5] _ rfl rfl (fun w hw0 hw => rreach_con _ _ 16 (by omega) kt.2 hkt.2.2 hkt.2.1 _ (evL _ st.ls) (TI_ev hst.2.2.2 _) st.f st.m _ _ _ _ w hw) (fun x L' hx => ?_) | refine YC.conR [4] _ rfl rfl (fun w hw0 hw => lines_con _ _ (TI_rch (TI_ev hst.2.2.2 _) 16 kt.2 _ _ _ _).len _ _ w hw) (fun x L' hx => ?_))
    | (show YU _ _ _ _ _ _ _ _; first | refine YU.storeF tabOk rfl rfl rfl 8 rfl rfl ?_ | refine YU.store1L tabOk rfl rfl 0 rfl rfl ?_ | refine YU.store1L tabOk rfl rfl 1 rfl rfl ?_ | refine YU.store1L tabOk rfl rfl 2 rfl rfl ?_ | refine YU.store1L tabOk rfl rfl 3 rfl rfl ?_ | refine YU.store1L tabOk rfl rfl 4 rfl rfl ?_ | refine YU.store1L tabOk rfl rfl 5 rfl rfl ?_ | refine YU.store1L tabOk rfl rfl 6 rfl rfl ?_ | refine YU.store1L tabOk rfl rfl 7 rfl rfl ?_ | refine YU.storeF tabOk rfl rfl rfl 0 rfl rfl ?_ | refine YU.storeF tabOk rfl rfl rfl 1 rfl rfl ?_ | refine YU.storeF tabOk rfl rfl rfl 2 rfl rfl ?_ | refine YU.storeF tabOk rfl rfl rfl 3 rfl rfl ?_ | refine YU.storeF tabOk rfl rfl rfl 4 rfl rfl ?_ | refine YU.storeF tabOk rfl rfl rfl 5 rfl rfl ?_ | refine YU.storeF tabOk rfl rfl rfl 6 rfl rfl ?_ | refine YU.storeF tabOk rfl rfl rfl 7 rfl rfl ?_ | refine YU.storeAL tabOk rfl rfl rfl 0 rfl rfl ?_ | refine YU.storeAL tabOk rfl rfl rfl 1 rfl rfl ?_ | refine YU.storeAL tabOk rfl rfl rfl 2 rfl rfl ?_ | refine YU.storeAL tabOk rfl rfl rfl 3 rfl rfl ?_ | refine YU.storeAL tabOk rfl rfl rfl 4 rfl rfl ?_)
    | (show Wr _ _ _; first | refine Wr.i64 (by omega) ?_ | refine Wr.u8 (by omega) ?_ | refine Wr.u16 (by omega) ?_ | refine Wr.u32 (by omega) ?_)
    | (show BIf _ _ _; first | refine BIf.pos rfl ?_ | refine BIf.neg rfl ?_)
    | (show Lp _ _ _ _ _; first | refine Lp.mk (α := Ws) [10] [1, 5, 6, 7, 8, 9] _ (fun x => [.int .i64 x.i]) (fun y => [ramE _ _ 16, frE _ y.X, refE _ _ 16, byE _ y.X, tlbE _ y.ls y.f y.m, tlbR _ y.ls y.f y.m]) (fun x => x.i ≤ 100 ∧ x.X.length = 16 * 64 ∧ By x.X ∧ TI x.ls) (fun x => 100 - x.i) rfl rfl ⟨0, X, S8, 0, 0⟩ ⟨by simp, hl, hB, TI8⟩ rfl ⟨_, rfl⟩ (fun st hst => ?_) | refine Lp.mk (α := Nat × List Int) [12] [1, 5, 6, 7, 8, 9, 10, 11] _ (fun x => [.int .i64 x.1]) (fun y => [ramE _ _ 16, frE _ y.2, refE _ _ 16, byE _ y.2, tlbE _ st.ls st.f st.m, tlbR _ st.ls st.f st.m, ⟨_, 63, asV (acts[st.i]'(by omega))⟩]) (fun x => x.1 ≤ 5 ∧ x.2.length = 16 * 64 ∧ By x.2) (fun x => 5 - x.1) rfl rfl ⟨0, st.X⟩ ⟨by simp, hst.2.1, hst.2.2.1⟩ rfl ⟨_, rfl⟩ (fun kt hkt => ?_) | refine Lp.subK (α := Nat) [18] [1, 5, 6, 7, 8, 9, 10, 17] _ (fun i => [.int .i64 i]) _ (fun i => i ≤ 8) (fun i => 8 - i) rfl rfl 0 (by omega) rfl ⟨[0, 1, 2, 3, 4, 5, 9], rfl, rfl⟩ (fun k hk => ?_))
    | (show Dr _ _ _ _ _ _ _ _ _; first | (show Dr _ _ _ _ _ (Array.toList #[_, _, _, _, _, _, _, _, _, _, _, _, _, _, _, _, _, _, _, _]) _ _ _; refine Dr.mk 19 (by kernel_rfl) ?_) | refine Dr.all (by kernel_rfl) ?_)
    | (show Fork _ _; first | refine Fork.mk ?_ ?_)
    | (show Vc.Fin _ _ _; first | refine Fin.take 0 (And.intro ?_ rfl))
    | refine ⟨⟨kt.1 + 1, putL 16 kt.2 _ _ _⟩, ⟨by show kt.1 + 1 ≤ 5; omega, putL_length hkt.2.1 _ _ _, By.put hkt.2.2 _ _ _⟩, by show 5 - (kt.1 + 1) < 5 - kt.1; omega, rfl, ⟨_, rfl⟩⟩
    | refine ⟨k + 1, by omega, by omega, rfl, [0, 1, 2, 3, 4, 5, 6], rfl, rfl⟩
    | refine ⟨⟨st.i + 1, kt.2, (rch 16 kt.2 (evL _ st.ls) _ _ _ _).ls, _, _⟩, ⟨by show st.i + 1 ≤ 100; omega, hkt.2.1, hkt.2.2, TI_rch (TI_ev hst.2.2.2 _) _ _ _ _ _ _⟩, by show 100 - (st.i + 1) < 100 - st.i; omega, rfl, ⟨_, rfl⟩⟩
    | intro b)
  all_goals first
    | (show Value.bool _ = Value.bool _; rfl)
    | contradiction
    | (exfalso; omega)
theorem walkReaches_walk (a0 : Option Addr) (len0 cap0 n0 : Nat) {W : World} (rd0 : Rd Try.prog W n0 22 (Value.slice a0 len0 cap0).cells.toList) (a1 : Option Addr) (len1 cap1 n1 : Nat) (rd1 : Rd Try.prog W n1 59 (Value.slice a1 len1 cap1).cells.toList) :
    Calls Try.prog 9 #[.slice a0 len0 cap0, .slice a1 len1 cap1] W fun e w' => e = .returned (.bool true) ∧ RowKit.Below W.heap.size W w' := by
  obtain ⟨us, h1, h2⟩ := rd_puts rd0
  obtain ⟨acts, g1, g2⟩ := rd_asks rd1
  exact (walkReaches_aux _ (lay_in _).1 (lay_in _).2 us rfl a0 len0 cap0 W h1 h2 a1 len1 cap1 acts g1 g2).law
end Go.Proofs.Ytbohpchmofkllaa
