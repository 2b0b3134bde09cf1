/- 'viceroylaw03.TlbFlushed' answers true at every list of acts and every flush. Conditions: none beside the row's own. -/
import Derived.Test.YtmpjdoodpkhmpaaRows
import Derived.Test.YtmpjdoodpkhmpaaLawTlbPlays
set_option linter.unusedVariables false
set_option linter.unusedSimpArgs false
set_option maxRecDepth 10000
set_option maxHeartbeats 8000000
namespace Go.Proofs.Ytmpjdoodpkhmpaa
open Vc
theorem fl_get_t {pr : Ln → Bool} {ls : List Ln} {i : Nat} (h : i < ls.length) (h1 : ls[i] ≠ ln0 ∧ pr ls[i] = true) : (flL pr ls)[i]? = some ln0 := by
  rw [flL, List.getElem?_map, List.getElem?_eq_getElem h, Option.map_some, if_pos h1]
theorem fl_get_f {pr : Ln → Bool} {ls : List Ln} {i : Nat} (h : i < ls.length) (h1 : ¬ (ls[i] ≠ ln0 ∧ pr ls[i] = true)) : (flL pr ls)[i]? = some ls[i] := by
  rw [flL, List.getElem?_map, List.getElem?_eq_getElem h, Option.map_some, if_neg h1]
theorem tlbFlushed_con0 (a : Option Addr) (len cap : Nat) (acts : List Ac) (v n : Int) (w : World) (hlen : acts.length = len) (ha : Arr w 10 acV a acts) :
    Con Try.prog 15 [.slice a len cap, .int .i64 0, .int .i64 v, .int .i64 n] w [] (fun y L' => y = .bool true ∧ L' = []) := by
  have hN := fn_le (prPage v n)
  refine Con.of_vc tabOk 138 [.tmp 8] Try.func15 rfl Try.ntmps15 Try.results15 rfl (Own.nil' w) ?_
  repeat' ((conv => whnf); first
    | refine YC.con [] [] rfl rfl (fun w _ _ => awake3_con w) (fun x L' hx => ?_)
    | refine YC.con [] [] rfl rfl (fun w _ _ => new_con w) (fun x L' hx => ?_)
    | (obtain ⟨rfl, rfl⟩ := hx; refine ⟨rfl, ?_⟩)
    | (obtain ⟨b, rfl, rfl⟩ := hx; refine ⟨rfl, ?_⟩)
    | (obtain ⟨b, c, rfl, rfl⟩ := hx; refine ⟨rfl, ?_⟩)
    | (obtain ⟨rfl, rfl⟩ := hx; refine ⟨rfl, ?_⟩)
    | (obtain ⟨b, rfl, rfl⟩ := hx; refine ⟨rfl, ?_⟩)
    | refine qeqp Try.underlying25 ?_
    | refine Lp.mk (α := Pl) [12] [0, 1, 2, 3, 9, 10, 11] _ (fun x => [.int .i64 x.i]) (fun x => [tlbE _ x.ls x.f x.m, tlbR _ x.ls x.f x.m]) (fun x => x.i ≤ 100 ∧ TI x.ls) (fun x => 100 - x.i) rfl rfl ⟨0, S0, 0, 0⟩ ⟨by simp, TI0⟩ rfl ⟨_, rfl⟩ (fun st hst => ?_)
    | refine YQ.idxS tabOk rfl ha st.i (List.getElem?_eq_getElem (by omega)) (by omega) (fun ad hd => ?_)
    | refine YQ.loadS tabOk hd rfl rfl ?_
    | refine YC.con [0, 1] _ rfl rfl (fun w _ hw => does_con _ _ st.ls hst.2 st.f st.m _ w hw) (fun x L' hx => ?_)
    | refine ⟨⟨st.i + 1, doL acts[st.i] st.ls, doF acts[st.i] st.ls st.f, doM acts[st.i] st.ls st.m⟩, ⟨by show st.i + 1 ≤ 100; omega, TI_do hst.2 _⟩, by show 100 - (st.i + 1) < 100 - st.i; omega, rfl, ⟨_, rfl⟩⟩
    | refine YC.con [0] _ rfl rfl (fun w _ hw => lines_con _ st.ls hst.2.len _ _ w hw) (fun x L' hx => ?_)
    | refine YC.con [0] _ rfl rfl (fun w _ hw => flushPage_con _ st.ls hst.2.len _ _ w hw v n) (fun x L' hx => ?_)
    | refine YC.con [0] _ rfl rfl (fun w _ hw => lines_con _ (flL (prPage v n) st.ls) (TI_fl hst.2 _).len _ _ w hw) (fun x L' hx => ?_)
    | refine Lp.mk (α := Nat) [17, 16] [1, 2, 3, 9, 13, 14, 15] _ (fun i => [.int .i64 i, .int .i64 (flN (prPage v n) (st.ls.take i))]) (fun i => [tlbE _ (flL (prPage v n) st.ls) st.f st.m, tlbR _ st.ls st.f st.m, ⟨_, 63, rows lnV st.ls ++ []⟩, ⟨_, 63, rows lnV (flL (prPage v n) st.ls) ++ []⟩]) (fun i => i ≤ 8) (fun i => 8 - i) rfl rfl 0 (by omega) rfl (by refine ⟨[], ?_⟩; show [_, _, _, _] = [_, _, _, _] ++ []; simp only [List.append_nil]; rfl) (fun i hi => ?_)
    | refine YQ.loadRow tabOk rfl 2 i rfl lnV_len (List.getElem?_eq_getElem (by have := hst.2.len; omega)) (by omega) ?_
    | refine YQ.loadRow tabOk rfl 3 i rfl lnV_len (fl_get_t (by have := hst.2.len; omega) ⟨fun h => absurd ((EqP_ln _).2 h) (by assumption), by simp only [prPage, decide_eq_true_eq]; omega⟩) (by omega) ?_
    | refine YQ.loadRow tabOk rfl 3 i rfl lnV_len (fl_get_f (by have := hst.2.len; omega) (fun h => by have h2 := h.2; simp only [prPage, decide_eq_true_eq] at h2; first | omega | exact h.1 ((EqP_ln _).1 (by assumption)))) (by omega) ?_
    | refine gsplit.neg (eqB_ln _) ?_
    | refine gsplit.neg (eqB_ln ln0) ?_
    | refine Wr.i64 (by have := hN (st.ls.take i); rw [List.length_take] at this; omega) ?_
    | refine ⟨i + 1, by omega, by omega, ?_, ⟨_, rfl⟩⟩
    | refine Fin.take 0 (And.intro ?_ rfl)
    | (obtain ⟨rfl, rfl⟩ := hx; refine ⟨rfl, ?_⟩)
    | (obtain ⟨b, rfl, rfl⟩ := hx; refine ⟨rfl, ?_⟩)
    | (obtain ⟨b, c, rfl, rfl⟩ := hx; refine ⟨rfl, ?_⟩)
    | refine gsplit.tt ?_
    | refine gsplit.ff ?_
    | refine gsplit.dpos (by omega) ?_
    | refine gsplit.dneg (by omega) ?_
    | refine gsplit.npos (by omega) ?_
    | refine gsplit.nneg (by omega) ?_
    | refine gsplit.dec (fun hc => ?_) (fun hc => ?_)
    | refine gsplit.ndec (fun hc => ?_) (fun hc => ?_)
    | refine BIf.pos rfl ?_
    | refine BIf.neg rfl ?_
    | refine Wr.i64 (by omega) ?_
    | refine Wr.u8 (by omega) ?_
    | refine Wr.u16 (by omega) ?_
    | refine Wr.u32 (by omega) ?_
    | refine YQ.remN (by omega) ?_
    | refine YQ.quoN (by omega) ?_
    | refine YQ.len tabOk rfl ?_
    | refine YQ.idx tabOk rfl (by omega) ?_
    | refine YQ.idxA tabOk rfl (by omega) ?_
    | refine YQ.sliceA tabOk rfl (by omega) (by omega) ?_
    | refine YQ.sliceAll tabOk rfl ?_
    | refine YQ.load1 tabOk rfl 0 rfl rfl ?_
    | refine YQ.load1 tabOk rfl 1 rfl rfl ?_
    | refine YQ.load1 tabOk rfl 2 rfl rfl ?_
    | refine YQ.load1 tabOk rfl 3 rfl rfl ?_
    | refine YQ.load1 tabOk rfl 4 rfl rfl ?_
    | refine YQ.load1 tabOk rfl 5 rfl rfl ?_
    | refine YQ.loadF tabOk rfl 0 rfl rfl ?_
    | refine YQ.loadF tabOk rfl 1 rfl rfl ?_
    | refine YQ.loadF tabOk rfl 2 rfl rfl ?_
    | refine YQ.loadF tabOk rfl 3 rfl rfl ?_
    | refine YQ.loadF tabOk rfl 4 rfl rfl ?_
    | refine YQ.loadF tabOk rfl 5 rfl rfl ?_
    | refine YQ.loadA tabOk rfl 0 rfl rfl rfl ?_
    | refine YQ.loadA tabOk rfl 1 rfl rfl rfl ?_
    | refine YQ.loadA tabOk rfl 2 rfl rfl rfl ?_
    | refine YQ.loadA tabOk rfl 3 rfl rfl rfl ?_
    | refine YQ.loadA tabOk rfl 4 rfl rfl rfl ?_
    | refine YU.store1L tabOk rfl rfl 0 rfl rfl ?_
    | refine YU.store1L tabOk rfl rfl 1 rfl rfl ?_
    | refine YU.store1L tabOk rfl rfl 2 rfl rfl ?_
    | refine YU.store1L tabOk rfl rfl 3 rfl rfl ?_
    | refine YU.store1L tabOk rfl rfl 4 rfl rfl ?_
    | refine YU.storeF tabOk rfl rfl rfl 0 rfl rfl ?_
    | refine YU.storeF tabOk rfl rfl rfl 1 rfl rfl ?_
    | refine YU.storeF tabOk rfl rfl rfl 2 rfl rfl ?_
    | refine YU.storeF tabOk rfl rfl rfl 3 rfl rfl ?_
    | refine YU.storeF tabOk rfl rfl rfl 4 rfl rfl ?_
    | refine YU.storeF tabOk rfl rfl rfl 5 rfl rfl ?_
    | refine YU.storeAL tabOk rfl rfl rfl 0 rfl rfl ?_
    | refine YU.storeAL tabOk rfl rfl rfl 1 rfl rfl ?_
    | refine YU.storeAL tabOk rfl rfl rfl 2 rfl rfl ?_
    | refine YU.storeAL tabOk rfl rfl rfl 3 rfl rfl ?_
    | refine YU.storeAL tabOk rfl rfl rfl 4 rfl rfl ?_
    | refine YQ.build tabOk rfl rfl rfl ?_
    | refine YQ.eqF tabOk rfl rfl rfl ?_
    | refine YQ.neF tabOk rfl rfl rfl ?_
    | refine gsplit.eq (fun hc => ?_) (fun hc => ?_)
    | refine gsplit.neq (fun hc => ?_) (fun hc => ?_)
    | refine Dr.all (by kernel_rfl) ?_
    | intro b)
  all_goals first
    | (rw [fn_t _ _ i (by have := hst.2.len; omega) ⟨fun h => absurd ((EqP_ln _).2 h) (by assumption), by simp only [prPage, decide_eq_true_eq]; omega⟩]; rfl)
    | (rw [fn_f _ _ i (by have := hst.2.len; omega) (fun h => by have h2 := h.2; simp only [prPage, decide_eq_true_eq] at h2; first | omega | exact h.1 ((EqP_ln _).1 (by assumption)))]; rfl)
    | (rw [show st.ls.take i = st.ls from List.take_of_length_le (by have := hst.2.len; omega)]; show Value.bool _ = Value.bool _; congr 1; simp; done)
end Go.Proofs.Ytmpjdoodpkhmpaa
