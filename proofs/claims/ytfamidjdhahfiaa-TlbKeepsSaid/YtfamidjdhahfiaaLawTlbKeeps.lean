/- 'viceroylaw03.TlbKeeps' answers true at every list of acts, every entry and every line. Conditions: none beside the row's own. -/
import Derived.Test.YtfamidjdhahfiaaRows
import Derived.Test.YtfamidjdhahfiaaLawTlbPlays
set_option linter.unusedVariables false
set_option linter.unusedSimpArgs false
set_option maxRecDepth 10000
set_option maxHeartbeats 8000000
namespace Go.Proofs.Ytfamidjdhahfiaa
open Vc
theorem find_self {L : List Ln} (h : TI L) {i : Nat} {y : Ln} (hi : L[i]? = some y) (h0 : y ≠ ln0) : L.find? (mt y.v y.a y.p) = some y := by
  cases hf : L.find? (mt y.v y.a y.p) with
  | none =>
    have := List.find?_eq_none.1 hf y (List.mem_iff_getElem?.2 ⟨i, hi⟩)
    exact absurd (by simp [mt, h0]) this
  | some z =>
    have hz := List.find?_some hf
    have hm := List.mem_of_find?_eq_some hf
    simp only [mt, decide_eq_true_eq] at hz
    obtain ⟨j, hj⟩ := List.mem_iff_getElem?.1 hm
    have hij : j = i := h.one j i z y hj hi hz.1 (by simp only [lsame, decide_eq_true_eq]; exact ⟨hz.2.1.symm, hz.2.2.1.symm, hz.2.2.2.symm⟩)
    subst hij
    rw [hj] at hi
    exact hi
theorem right_ne {x : Ln} (h : lnRight x) : x ≠ ln0 := by
  rintro rfl
  have := h.1.1
  simp [ln0] at this
theorem keeps_x {ls : List Ln} (h : TI ls) {at_ : Int} {x : Ln} (ha : atP at_) (hx : lnRight x) : (fillL at_ x ls).find? (mt x.v x.a x.p) = some x := by
  refine find_self (TI_fill h at_ x) (i := at_.toNat) ?_ (right_ne hx)
  have hl : (flL (lsame x) ls).length = 8 := by simp [flL, h.len]
  unfold atP at ha
  rw [fillL, if_pos ⟨by unfold atP; exact ha, hx⟩, List.getElem?_set_self (by omega)]
theorem keeps_y {ls : List Ln} (h : TI ls) {at_ : Int} {x y : Ln} {i : Nat} (ha : atP at_) (hx : lnRight x) (hi : ls[i]? = some y) (h0 : y ≠ ln0) (hne : ¬ (i : Int) = at_) (hs : ¬ (y.v = x.v ∧ y.a = x.a ∧ y.p = x.p)) :
    (fillL at_ x ls).find? (mt y.v y.a y.p) = some y := by
  refine find_self (TI_fill h at_ x) (i := i) ?_ h0
  unfold atP at ha
  rw [fillL, if_pos ⟨by unfold atP; exact ha, hx⟩, List.getElem?_set_ne (by omega), flL, List.getElem?_map, hi, Option.map_some, if_neg]
  rintro ⟨_, h2⟩
  exact hs (by simpa [lsame] using h2)
theorem find_or3 (p : Nat) {ls : List Ln} (h : TI ls) {at_ : Int} {x : Ln} (ha : atP at_) (hx : lnRight x) (f m : Int) {i : Nat} {y : Ln} (hi : ls[i]? = some y) (w : World) (hw : Own w [tlbE p (fillL at_ x ls) f m]) :
    Con Try.prog 26 [.pointer (some ⟨p, 0, none⟩), .int .i64 y.v, .int .i64 y.a, .int .i64 y.p] w [tlbE p (fillL at_ x ls) f m]
      (fun r L' => ((y ≠ ln0 ∧ ¬ (i : Int) = at_ ∧ ¬ (y.v = x.v ∧ y.a = x.a ∧ y.p = x.p)) ∧ r = .tuple #[.int .i64 y.f, .int .i64 y.r, .bool true] ∧ L' = [tlbE p (fillL at_ x ls) (up f) m]) ∨
        (¬ (y ≠ ln0 ∧ ¬ (i : Int) = at_ ∧ ¬ (y.v = x.v ∧ y.a = x.a ∧ y.p = x.p)) ∧ ∃ c d e f' m', r = .tuple #[.int .i64 c, .int .i64 d, .bool e] ∧ L' = [tlbE p (fillL at_ x ls) f' m'])) := by
  refine (find_con p _ (TI_fill h at_ x).len f m y.v y.a y.p w hw).mono ?_
  rintro r L' ⟨rfl, rfl⟩
  by_cases hD : y ≠ ln0 ∧ ¬ (i : Int) = at_ ∧ ¬ (y.v = x.v ∧ y.a = x.a ∧ y.p = x.p)
  · refine .inl ⟨hD, ?_⟩
    rw [keeps_y h ha hx hi hD.1 hD.2.1 hD.2.2]
    exact ⟨rfl, rfl⟩
  · refine .inr ⟨hD, ?_⟩
    cases (fillL at_ x ls).find? (mt y.v y.a y.p) with
    | none => exact ⟨_, _, _, _, _, rfl, rfl⟩
    | some z => exact ⟨_, _, _, _, _, rfl, rfl⟩
theorem tlbKeeps_no (a : Option Addr) (len cap : Nat) (acts : List Ac) (at_ : Int) (x : Ln) (hn : ¬ (atP at_ ∧ lnRight x)) (w : World) (hlen : acts.length = len) (ha : Arr w 10 acV a acts) :
    Con Try.prog 6 [.slice a len cap, .int .i64 at_, lnA x] w [] (fun y L' => y = .bool true ∧ L' = []) := by
  have hE : ¬ fillE at_ x = 0 := by
    unfold fillE
    split
    · rename_i h1
      rw [if_neg (fun h2 => hn ⟨h1, h2⟩)]
      decide
    · decide
  have hL : ∀ ls, fillL at_ x ls = ls := fun ls => if_neg hn
  refine Con.of_vc tabOk 170 [.tmp 6] Try.func6 rfl Try.ntmps6 Try.results6 rfl (Own.nil' w) ?_
  repeat' ((conv => whnf); first
    | (simp only [hL] at hx)
    | (obtain ⟨rfl, rfl⟩ := hx; refine ⟨rfl, ?_⟩)
    | (obtain ⟨b, rfl, rfl⟩ := hx; refine ⟨rfl, ?_⟩)
    | (obtain ⟨b, c, rfl, rfl⟩ := hx; refine ⟨rfl, ?_⟩)
    | (show gsplit _ _ _; first | refine gsplit.neg (eqB_ln _) ?_ | refine gsplit.tt ?_ | refine gsplit.ff ?_ | refine gsplit.dpos (by omega) ?_ | refine gsplit.dneg (by omega) ?_ | refine gsplit.npos (by omega) ?_ | refine gsplit.nneg (by omega) ?_ | refine gsplit.dec (fun hc => ?_) (fun hc => ?_) | refine gsplit.ndec (fun hc => ?_) (fun hc => ?_) | refine gsplit.eq (fun hc => ?_) (fun hc => ?_) | refine gsplit.neq (fun hc => ?_) (fun hc => ?_))
    | (show YQ _ _ _ _ _ _; first | refine qeqp Try.underlying45 ?_ | refine YQ.idxS tabOk rfl ha st.i (List.getElem?_eq_getElem (by omega)) (by omega) (fun ad hd => ?_) | refine YQ.loadS tabOk hd rfl rfl ?_ | refine YQ.loadRow tabOk rfl 0 i rfl lnV_len (List.getElem?_eq_getElem (by have := hst.2.len; omega)) (by omega) ?_ | refine YQ.loadRow tabOk rfl 1 i rfl lnV_len (List.getElem?_eq_getElem (by have := hst.2.len; omega)) (by omega) ?_ | refine YQ.remN (by omega) ?_ | refine YQ.quoN (by omega) ?_ | refine YQ.len tabOk rfl ?_ | refine YQ.idx tabOk rfl (by omega) ?_ | refine YQ.idxA tabOk rfl (by omega) ?_ | refine YQ.sliceA tabOk rfl (by omega) (by omega) ?_ | refine YQ.sliceAll tabOk rfl ?_ | refine YQ.load1 tabOk rfl 0 rfl rfl ?_ | refine YQ.load1 tabOk rfl 1 rfl rfl ?_ | refine YQ.load1 tabOk rfl 2 rfl rfl ?_ | refine YQ.load1 tabOk rfl 3 rfl rfl ?_ | refine YQ.load1 tabOk rfl 4 rfl rfl ?_ | refine YQ.load1 tabOk rfl 5 rfl rfl ?_ | refine YQ.loadF tabOk rfl 0 rfl rfl ?_ | refine YQ.loadF tabOk rfl 1 rfl rfl ?_ | refine YQ.loadF tabOk rfl 2 rfl rfl ?_ | refine YQ.loadF tabOk rfl 3 rfl rfl ?_ | refine YQ.loadF tabOk rfl 4 rfl rfl ?_ | refine YQ.loadF tabOk rfl 5 rfl rfl ?_ | refine YQ.loadA tabOk rfl 0 rfl rfl rfl ?_ | refine YQ.loadA tabOk rfl 1 rfl rfl rfl ?_ | refine YQ.loadA tabOk rfl 2 rfl rfl rfl ?_ | refine YQ.loadA tabOk rfl 3 rfl rfl rfl ?_ | refine YQ.loadA tabOk rfl 4 rfl rfl rfl ?_ | refine YQ.build tabOk rfl rfl rfl ?_ | refine YQ.eqF tabOk rfl rfl rfl ?_ | refine YQ.neF tabOk rfl rfl rfl ?_)
    | (show YC _ _ _ _ _ _ _; first | refine YC.conR [] [] rfl rfl (fun w _ _ => awake3_con w) (fun x L' hx => ?_) | refine YC.conR [] [] rfl rfl (fun w _ _ => new_con w) (fun x L' hx => ?_) | refine YC.conR [1, 2] _ rfl rfl (fun w hw0 hw => does_con _ _ st.ls hst.2 st.f st.m _ w hw) (fun x L' hx => ?_) | refine YC.conR [1] _ rfl rfl (fun w hw0 hw => lines_con _ st.ls hst.2.len st.f st.m w hw) (fun x L' hx => ?_) | refine YC.conR [1] _ rfl rfl (fun w hw0 hw => fill_con _ st.ls hst.2.len st.f st.m w hw at_ x) (fun x L' hx => ?_))
    | (show YU _ _ _ _ _ _ _ _; first | refine YU.store1L tabOk rfl rfl 0 rfl rfl ?_ | refine YU.store1L tabOk rfl rfl 1 rfl rfl ?_ | refine YU.store1L tabOk rfl rfl 2 rfl rfl ?_ | refine YU.store1L tabOk rfl rfl 3 rfl rfl ?_ | refine YU.store1L tabOk rfl rfl 4 rfl rfl ?_ | refine YU.storeF tabOk rfl rfl rfl 0 rfl rfl ?_ | refine YU.storeF tabOk rfl rfl rfl 1 rfl rfl ?_ | refine YU.storeF tabOk rfl rfl rfl 2 rfl rfl ?_ | refine YU.storeF tabOk rfl rfl rfl 3 rfl rfl ?_ | refine YU.storeF tabOk rfl rfl rfl 4 rfl rfl ?_ | refine YU.storeF tabOk rfl rfl rfl 5 rfl rfl ?_ | refine YU.storeAL tabOk rfl rfl rfl 0 rfl rfl ?_ | refine YU.storeAL tabOk rfl rfl rfl 1 rfl rfl ?_ | refine YU.storeAL tabOk rfl rfl rfl 2 rfl rfl ?_ | refine YU.storeAL tabOk rfl rfl rfl 3 rfl rfl ?_ | refine YU.storeAL tabOk rfl rfl rfl 4 rfl rfl ?_)
    | (show Wr _ _ _; first | refine Wr.i64 (by omega) ?_ | refine Wr.u8 (by omega) ?_ | refine Wr.u16 (by omega) ?_ | refine Wr.u32 (by omega) ?_)
    | (show BIf _ _ _; first | refine BIf.pos rfl ?_ | refine BIf.neg rfl ?_)
    | (show Lp _ _ _ _ _; first | refine Lp.mk (α := Pl) [10] [0, 1, 5, 7, 8, 9] _ (fun x => [.int .i64 x.i]) (fun y => [⟨_, 49, lnV x⟩, tlbE _ y.ls y.f y.m, tlbR _ y.ls y.f y.m]) (fun x => x.i ≤ 100 ∧ TI x.ls) (fun x => 100 - x.i) rfl rfl ⟨0, S0, 0, 0⟩ ⟨by simp, TI0⟩ rfl ⟨_, rfl⟩ (fun st hst => ?_) | refine Lp.sub (α := Nat) [14] [7, 11, 13] _ (fun i => [.int .i64 i]) (fun i => [⟨_, 50, rows lnV st.ls ++ []⟩, ⟨_, 50, rows lnV st.ls ++ []⟩]) (fun i => i ≤ 8) (fun i => 8 - i) rfl rfl 0 (by omega) rfl ⟨[3, 4], by simp only [List.append_nil]; rfl, rfl⟩ (fun i hi => ?_))
    | (show Dr _ _ _ _ _ _ _ _ _; first | refine Dr.all (by kernel_rfl) ?_)
    | (show Vc.Fin _ _ _; first | refine Fin.take 0 (And.intro ?_ rfl))
    | refine ⟨⟨st.i + 1, doL _ st.ls, doF _ st.ls st.f, doM _ st.ls st.m⟩, ⟨by show st.i + 1 ≤ 100; omega, TI_do hst.2 _⟩, by show 100 - (st.i + 1) < 100 - st.i; omega, rfl, ⟨_, rfl⟩⟩
    | refine ⟨i + 1, by omega, by omega, rfl, [0, 1], rfl, rfl⟩
    | intro b)
  all_goals first
    | rfl
    | contradiction
    | (exfalso; omega)
theorem tlbKeeps_yes (a : Option Addr) (len cap : Nat) (acts : List Ac) (at_ : Int) (x : Ln) (hn : atP at_ ∧ lnRight x) (w : World) (hlen : acts.length = len) (ha : Arr w 10 acV a acts) :
    Con Try.prog 6 [.slice a len cap, .int .i64 at_, lnA x] w [] (fun y L' => y = .bool true ∧ L' = []) := by
  have hE : fillE at_ x = 0 := (if_pos hn.1).trans (if_pos hn.2)
  have hat := hn.1
  unfold atP at hat
  refine Con.of_vc tabOk 170 [.tmp 6] Try.func6 rfl Try.ntmps6 Try.results6 rfl (Own.nil' w) ?_
  repeat' ((conv => whnf); first
    | (replace hx := (show _ ∨ _ from hx); rcases hx with ⟨hD, rfl, rfl⟩ | ⟨hD, fa, fb, fc, ff, fm, rfl, rfl⟩ <;> refine ⟨rfl, ?_⟩)
    | (simp only [hE] at hx)
    | (simp only [keeps_x hst.2 hn.1 hn.2, fndV, fndF, fndM] at hx)
    | (obtain ⟨rfl, rfl⟩ := hx; refine ⟨rfl, ?_⟩)
    | (obtain ⟨b, rfl, rfl⟩ := hx; refine ⟨rfl, ?_⟩)
    | (obtain ⟨b, c, rfl, rfl⟩ := hx; refine ⟨rfl, ?_⟩)
    | (show gsplit _ _ _; first | refine gsplit.tt ?_ | refine gsplit.ff ?_ | refine gsplit.dpos (by omega) ?_ | refine gsplit.dneg (by omega) ?_ | refine gsplit.npos (by omega) ?_ | refine gsplit.nneg (by omega) ?_ | refine gsplit.dec (fun hc => ?_) (fun hc => ?_) | refine gsplit.ndec (fun hc => ?_) (fun hc => ?_) | refine gsplit.eq (fun hc => ?_) (fun hc => ?_) | refine gsplit.neq (fun hc => ?_) (fun hc => ?_))
    | (show YQ _ _ _ _ _ _; first | refine qeqp Try.underlying45 ?_ | refine YQ.idxS tabOk rfl ha st.i (List.getElem?_eq_getElem (by omega)) (by omega) (fun ad hd => ?_) | refine YQ.loadS tabOk hd rfl rfl ?_ | refine YQ.loadRow tabOk rfl 2 j.1 rfl lnV_len (List.getElem?_eq_getElem (by have := hst.2.len; omega)) (by omega) ?_ | refine YQ.remN (by omega) ?_ | refine YQ.quoN (by omega) ?_ | refine YQ.len tabOk rfl ?_ | refine YQ.idx tabOk rfl (by omega) ?_ | refine YQ.idxA tabOk rfl (by omega) ?_ | refine YQ.sliceA tabOk rfl (by omega) (by omega) ?_ | refine YQ.sliceAll tabOk rfl ?_ | refine YQ.load1 tabOk rfl 0 rfl rfl ?_ | refine YQ.load1 tabOk rfl 1 rfl rfl ?_ | refine YQ.load1 tabOk rfl 2 rfl rfl ?_ | refine YQ.load1 tabOk rfl 3 rfl rfl ?_ | refine YQ.load1 tabOk rfl 4 rfl rfl ?_ | refine YQ.load1 tabOk rfl 5 rfl rfl ?_ | refine YQ.loadF tabOk rfl 0 rfl rfl ?_ | refine YQ.loadF tabOk rfl 1 rfl rfl ?_ | refine YQ.loadF tabOk rfl 2 rfl rfl ?_ | refine YQ.loadF tabOk rfl 3 rfl rfl ?_ | refine YQ.loadF tabOk rfl 4 rfl rfl ?_ | refine YQ.loadF tabOk rfl 5 rfl rfl ?_ | refine YQ.loadA tabOk rfl 0 rfl rfl rfl ?_ | refine YQ.loadA tabOk rfl 1 rfl rfl rfl ?_ | refine YQ.loadA tabOk rfl 2 rfl rfl rfl ?_ | refine YQ.loadA tabOk rfl 3 rfl rfl rfl ?_ | refine YQ.loadA tabOk rfl 4 rfl rfl rfl ?_ | refine YQ.build tabOk rfl rfl rfl ?_ | refine YQ.eqF tabOk rfl rfl rfl ?_ | refine YQ.neF tabOk rfl rfl rfl ?_)
    | (show YC _ _ _ _ _ _ _; first | refine YC.conR [] [] rfl rfl (fun w _ _ => awake3_con w) (fun x L' hx => ?_) | refine YC.conR [] [] rfl rfl (fun w _ _ => new_con w) (fun x L' hx => ?_) | refine YC.conR [1, 2] _ rfl rfl (fun w hw0 hw => does_con _ _ st.ls hst.2 st.f st.m _ w hw) (fun x L' hx => ?_) | refine YC.conR [1] _ rfl rfl (fun w hw0 hw => lines_con _ st.ls hst.2.len st.f st.m w hw) (fun x L' hx => ?_) | refine YC.conR [1] _ rfl rfl (fun w hw0 hw => fill_con _ st.ls hst.2.len st.f st.m w hw at_ x) (fun x L' hx => ?_) | refine YC.conR [1] _ rfl rfl (fun w hw0 hw => find_con _ (fillL at_ x st.ls) (TI_fill hst.2 at_ x).len _ _ x.v x.a x.p w hw) (fun x L' hx => ?_) | refine YC.conR [1] _ rfl rfl (fun w hw0 hw => find_or3 _ hst.2 hn.1 hn.2 j.2.1 j.2.2 (List.getElem?_eq_getElem (i := j.1) _) w hw) (fun x L' hx => ?_))
    | (show YU _ _ _ _ _ _ _ _; first | refine YU.store1L tabOk rfl rfl 0 rfl rfl ?_ | refine YU.store1L tabOk rfl rfl 1 rfl rfl ?_ | refine YU.store1L tabOk rfl rfl 2 rfl rfl ?_ | refine YU.store1L tabOk rfl rfl 3 rfl rfl ?_ | refine YU.store1L tabOk rfl rfl 4 rfl rfl ?_ | refine YU.storeF tabOk rfl rfl rfl 0 rfl rfl ?_ | refine YU.storeF tabOk rfl rfl rfl 1 rfl rfl ?_ | refine YU.storeF tabOk rfl rfl rfl 2 rfl rfl ?_ | refine YU.storeF tabOk rfl rfl rfl 3 rfl rfl ?_ | refine YU.storeF tabOk rfl rfl rfl 4 rfl rfl ?_ | refine YU.storeF tabOk rfl rfl rfl 5 rfl rfl ?_ | refine YU.storeAL tabOk rfl rfl rfl 0 rfl rfl ?_ | refine YU.storeAL tabOk rfl rfl rfl 1 rfl rfl ?_ | refine YU.storeAL tabOk rfl rfl rfl 2 rfl rfl ?_ | refine YU.storeAL tabOk rfl rfl rfl 3 rfl rfl ?_ | refine YU.storeAL tabOk rfl rfl rfl 4 rfl rfl ?_)
    | (show Wr _ _ _; first | refine Wr.i64 (by omega) ?_ | refine Wr.u8 (by omega) ?_ | refine Wr.u16 (by omega) ?_ | refine Wr.u32 (by omega) ?_)
    | (show BIf _ _ _; first | refine BIf.pos rfl ?_ | refine BIf.neg rfl ?_)
    | (show Lp _ _ _ _ _; first | refine Lp.mk (α := Pl) [10] [0, 1, 5, 7, 8, 9] _ (fun x => [.int .i64 x.i]) (fun y => [⟨_, 49, lnV x⟩, tlbE _ y.ls y.f y.m, tlbR _ y.ls y.f y.m]) (fun x => x.i ≤ 100 ∧ TI x.ls) (fun x => 100 - x.i) rfl rfl ⟨0, S0, 0, 0⟩ ⟨by simp, TI0⟩ rfl ⟨_, rfl⟩ (fun st hst => ?_) | refine Lp.sub (α := Nat × Int × Int) [18] [1, 5, 7, 8, 11, 15, 16, 17] _ (fun j => [.int .i64 j.1]) (fun j => [⟨_, 49, lnV x⟩, tlbE _ (fillL at_ x st.ls) j.2.1 j.2.2, ⟨_, 50, rows lnV st.ls ++ []⟩]) (fun j => j.1 ≤ 8) (fun j => 8 - j.1) rfl rfl ⟨0, _, _⟩ (by show 0 ≤ 8; omega) rfl ⟨[0, 1, 3], by simp only [List.append_nil]; rfl, rfl⟩ (fun j hi => ?_))
    | (show Dr _ _ _ _ _ _ _ _ _; first | refine Dr.all (by kernel_rfl) ?_)
    | (show Vc.Fin _ _ _; first | refine Fin.take 0 (And.intro ?_ rfl))
    | refine ⟨⟨st.i + 1, doL _ st.ls, doF _ st.ls st.f, doM _ st.ls st.m⟩, ⟨by show st.i + 1 ≤ 100; omega, TI_do hst.2 _⟩, by show 100 - (st.i + 1) < 100 - st.i; omega, rfl, ⟨_, rfl⟩⟩
    | refine ⟨⟨j.1 + 1, _, _⟩, by show j.1 + 1 ≤ 8; omega, by show 8 - (j.1 + 1) < 8 - j.1; omega, rfl, [0, 1, 2], rfl, rfl⟩
    | intro b)
  all_goals first
    | rfl
    | contradiction
    | (exfalso; omega)
    | (exfalso; exact hD ⟨fun h => absurd ((EqP_ln _).2 h) (by assumption), by assumption, by omega⟩)
    | (show Value.bool _ = Value.bool _; congr 1; simp; done)
theorem tlbKeeps_walk (a0 : Option Addr) (len0 cap0 n0 : Nat) {W : World} (rd0 : Rd Try.prog W n0 44 (Value.slice a0 len0 cap0).cells.toList) (at_ : Int) (w1 : (Lit.int .i64 at_).wf = true) (a2 : Array Value) (n2 : Nat) (rd2 : Rd Try.prog W n2 49 (Value.agg a2).cells.toList) :
    Calls Try.prog 6 #[.slice a0 len0 cap0, .int .i64 at_, .agg a2] W fun e w' => e = .returned (.bool true) ∧ RowKit.Below W.heap.size W w' := by
  obtain ⟨acts, h1, h2, h3, h4⟩ := rd_acts rd0
  obtain ⟨l, h, _⟩ := rd_line rd2
  have : a2 = (lnV l).toArray := by apply Array.ext'; exact h
  subst this
  by_cases hn : atP at_ ∧ lnRight l
  · exact (tlbKeeps_yes a0 len0 cap0 acts at_ l hn W h1 h4).law
  · exact (tlbKeeps_no a0 len0 cap0 acts at_ l hn W h1 h4).law
end Go.Proofs.Ytfamidjdhahfiaa
