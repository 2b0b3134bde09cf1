/- 'viceroylaw03.TlbPlays' answers true at every list of acts. Conditions: none beside the row's own. -/
import Derived.Test.YtmpjdoodpkhmpaaRows
import Derived.Test.YtmpjdoodpkhmpaaTlb5
import Derived.Test.YtmpjdoodpkhmpaaLawTlbLines
set_option linter.unusedVariables false
set_option linter.unusedSimpArgs false
set_option maxRecDepth 10000
set_option maxHeartbeats 4000000
namespace Go.Proofs.Ytmpjdoodpkhmpaa
open Vc
def mark (l : Ln) : Ln := ⟨l.v, l.a, l.p, -1, l.r⟩
def fm (ls : List Ln) (i : Nat) : List Ln := (ls.take i).map mark ++ ls.drop i
theorem fm_length {ls : List Ln} {i : Nat} (h : i ≤ ls.length) : (fm ls i).length = ls.length := by simp [fm]; omega
theorem fm_at {ls : List Ln} {i : Nat} (h : i < ls.length) : (fm ls i)[i]? = some ls[i] := by
  rw [fm, List.getElem?_append_right (by simp; omega)]
  simp [Nat.min_eq_left (Nat.le_of_lt h), List.getElem?_eq_getElem h]
theorem fm_set {ls : List Ln} {i : Nat} (h : i < ls.length) : (fm ls i).set i (mark ls[i]) = fm ls (i + 1) := by
  simp only [fm]
  rw [List.take_succ_eq_append_getElem h, List.map_append, List.map_cons, List.map_nil, List.drop_eq_getElem_cons h]
  rw [List.set_append_right _ _ (by simp; omega)]
  rw [List.length_map, List.length_take, Nat.min_eq_left (Nat.le_of_lt h), Nat.sub_self, List.set_cons_zero, List.append_assoc]
  rfl
theorem eqB_ln (x : Ln) : (!eqB (lnV x) (lnV x)) = false := by
  have : eqB (lnV x) (lnV x) = true := eqB_true.2 ⟨rfl, rfl, rfl, rfl, rfl, trivial⟩
  rw [this]; rfl
theorem alike_con (p q : Nat) (ls : List Ln) (hlen : ls.length = 8) (f m : Int) (w : World) (hw : Own w [tlbE p ls f m, tlbR q ls f m]) :
    Con Try.prog 59 [.pointer (some ⟨p, 0, none⟩), .pointer (some ⟨q, 0, none⟩)] w [tlbE p ls f m, tlbR q ls f m] (fun y L' => y = .bool true ∧ L' = [tlbE p ls f m, tlbR q ls f m]) := by
  refine Con.of_vc tabOk 54 [.tmp 4] Try.func59 rfl Try.ntmps59 Try.results59 rfl hw ?_
  repeat' ((conv => whnf); first
    | refine YC.con [0] _ rfl rfl (fun w _ hw => lines_con _ ls hlen _ _ w hw) (fun x L' hx => ?_)
    | refine YC.con [0] _ rfl rfl (fun w _ hw => counts_con _ ls hlen _ _ w hw) (fun x L' hx => ?_)
    | (obtain ⟨rfl, rfl⟩ := hx; refine ⟨rfl, ?_⟩)
    | (obtain ⟨b, rfl, rfl⟩ := hx; refine ⟨rfl, ?_⟩)
    | (obtain ⟨b, c, rfl, rfl⟩ := hx; refine ⟨rfl, ?_⟩)
    | (obtain ⟨rfl, rfl⟩ := hx; refine ⟨rfl, ?_⟩)
    | (obtain ⟨b, rfl, rfl⟩ := hx; refine ⟨rfl, ?_⟩)
    | refine Lp.mk (α := Nat) [6] [0, 1, 5] _ (fun i => [.int .i64 i]) (fun i => [tlbE p ls f m, tlbR q ls f m, ⟨b, 63, rows lnV (fm ls i) ++ []⟩]) (fun i => i ≤ 8) (fun i => 8 - i) rfl rfl 0 (by omega) rfl (by refine ⟨[], ?_⟩; show [_, _, _] = [_, _, _] ++ []; simp [fm]) (fun i hi => ?_)
    | refine YQ.loadRow tabOk rfl 2 i rfl lnV_len (fm_at (by omega)) (by omega) ?_
    | refine YQ.loadRow tabOk rfl 1 i rfl lnV_len (List.getElem?_eq_getElem (by omega)) (by omega) ?_
    | refine gsplit.neg (eqB_ln _) ?_
    | refine YU.storeRc tabOk rfl rfl 2 i rfl lnV_len (fm_at (by omega)) 3 (by omega) (by omega) (mark _) rfl ?_
    | refine YQ.loadT tabOk rfl 1 rfl lnV_len 0 (by omega) rfl ?_
    | refine YQ.loadT tabOk rfl 1 rfl lnV_len 1 (by omega) rfl ?_
    | refine ⟨i + 1, by omega, by omega, rfl, ?_⟩
    | refine Fin.take 2 (And.intro ?_ rfl)
    | (obtain ⟨rfl, rfl⟩ := hx; refine ⟨rfl, ?_⟩)
    | (obtain ⟨b, rfl, rfl⟩ := hx; refine ⟨rfl, ?_⟩)
    | (obtain ⟨b, c, rfl, rfl⟩ := hx; refine ⟨rfl, ?_⟩)
    | refine gsplit.tt ?_
    | refine gsplit.ff ?_
    | refine gsplit.dpos (by omega) ?_
    | refine gsplit.dneg (by omega) ?_
    | refine gsplit.npos (by omega) ?_
    | refine gsplit.nneg (by omega) ?_
    | refine gsplit.dec (fun hc => ?_) (fun hc => ?_)
    | refine gsplit.ndec (fun hc => ?_) (fun hc => ?_)
    | refine BIf.pos rfl ?_
    | refine BIf.neg rfl ?_
    | refine Wr.i64 (by omega) ?_
    | refine Wr.u8 (by omega) ?_
    | refine Wr.u16 (by omega) ?_
    | refine Wr.u32 (by omega) ?_
    | refine YQ.remN (by omega) ?_
    | refine YQ.quoN (by omega) ?_
    | refine YQ.len tabOk rfl ?_
    | refine YQ.idx tabOk rfl (by omega) ?_
    | refine YQ.idxA tabOk rfl (by omega) ?_
    | refine YQ.sliceA tabOk rfl (by omega) (by omega) ?_
    | refine YQ.sliceAll tabOk rfl ?_
    | refine YQ.load1 tabOk rfl 0 rfl rfl ?_
    | refine YQ.load1 tabOk rfl 1 rfl rfl ?_
    | refine YQ.load1 tabOk rfl 2 rfl rfl ?_
    | refine YQ.load1 tabOk rfl 3 rfl rfl ?_
    | refine YQ.load1 tabOk rfl 4 rfl rfl ?_
    | refine YQ.load1 tabOk rfl 5 rfl rfl ?_
    | refine YQ.loadF tabOk rfl 0 rfl rfl ?_
    | refine YQ.loadF tabOk rfl 1 rfl rfl ?_
    | refine YQ.loadF tabOk rfl 2 rfl rfl ?_
    | refine YQ.loadF tabOk rfl 3 rfl rfl ?_
    | refine YQ.loadF tabOk rfl 4 rfl rfl ?_
    | refine YQ.loadF tabOk rfl 5 rfl rfl ?_
    | refine YQ.loadA tabOk rfl 0 rfl rfl rfl ?_
    | refine YQ.loadA tabOk rfl 1 rfl rfl rfl ?_
    | refine YQ.loadA tabOk rfl 2 rfl rfl rfl ?_
    | refine YQ.loadA tabOk rfl 3 rfl rfl rfl ?_
    | refine YQ.loadA tabOk rfl 4 rfl rfl rfl ?_
    | refine YU.store1L tabOk rfl rfl 0 rfl rfl ?_
    | refine YU.store1L tabOk rfl rfl 1 rfl rfl ?_
    | refine YU.store1L tabOk rfl rfl 2 rfl rfl ?_
    | refine YU.store1L tabOk rfl rfl 3 rfl rfl ?_
    | refine YU.store1L tabOk rfl rfl 4 rfl rfl ?_
    | refine YU.storeF tabOk rfl rfl rfl 0 rfl rfl ?_
    | refine YU.storeF tabOk rfl rfl rfl 1 rfl rfl ?_
    | refine YU.storeF tabOk rfl rfl rfl 2 rfl rfl ?_
    | refine YU.storeF tabOk rfl rfl rfl 3 rfl rfl ?_
    | refine YU.storeF tabOk rfl rfl rfl 4 rfl rfl ?_
    | refine YU.storeF tabOk rfl rfl rfl 5 rfl rfl ?_
    | refine YU.storeAL tabOk rfl rfl rfl 0 rfl rfl ?_
    | refine YU.storeAL tabOk rfl rfl rfl 1 rfl rfl ?_
    | refine YU.storeAL tabOk rfl rfl rfl 2 rfl rfl ?_
    | refine YU.storeAL tabOk rfl rfl rfl 3 rfl rfl ?_
    | refine YU.storeAL tabOk rfl rfl rfl 4 rfl rfl ?_
    | refine YQ.build tabOk rfl rfl rfl ?_
    | refine YQ.eqF tabOk rfl rfl rfl ?_
    | refine YQ.neF tabOk rfl rfl rfl ?_
    | refine gsplit.eq (fun hc => ?_) (fun hc => ?_)
    | refine gsplit.neq (fun hc => ?_) (fun hc => ?_)
    | refine Dr.all (by kernel_rfl) ?_
    | intro b)
  · rw [← fm_set (by omega)]
    exact ⟨[], rfl⟩
  · show Value.bool _ = Value.bool _
    simp
theorem TI0 : TI S0 where
  len := rfl
  ok := fun l hl => .inl (List.eq_of_mem_replicate hl)
  one := fun i j x y hx hy h0 hs => absurd (List.eq_of_mem_replicate (List.mem_iff_getElem?.2 ⟨i, hx⟩)) h0
/-- What a play has come to. -/
structure Pl where
  i : Nat
  ls : List Ln
  f : Int
  m : Int
theorem tlbPlays_con (a : Option Addr) (len cap : Nat) (acts : List Ac) (w : World) (hlen : acts.length = len) (ha : Arr w 10 acV a acts) :
    Con Try.prog 13 [.slice a len cap] w [] (fun y L' => y = .bool true ∧ L' = []) := by
  refine Con.of_vc tabOk 42 [.tmp 2] Try.func13 rfl Try.ntmps13 Try.results13 rfl (Own.nil' w) ?_
  repeat' ((conv => whnf); first
    | refine YC.con [] [] rfl rfl (fun w _ _ => awake3_con w) (fun x L' hx => ?_)
    | refine YC.con [] [] rfl rfl (fun w _ _ => new_con w) (fun x L' hx => ?_)
    | (obtain ⟨rfl, rfl⟩ := hx; refine ⟨rfl, ?_⟩)
    | (obtain ⟨b, rfl, rfl⟩ := hx; refine ⟨rfl, ?_⟩)
    | (obtain ⟨b, c, rfl, rfl⟩ := hx; refine ⟨rfl, ?_⟩)
    | (obtain ⟨rfl, rfl⟩ := hx; refine ⟨rfl, ?_⟩)
    | (obtain ⟨b, rfl, rfl⟩ := hx; refine ⟨rfl, ?_⟩)
    | refine qeqp Try.underlying25 ?_
    | refine Lp.mk (α := Pl) [6] [0, 3, 4, 5] _ (fun x => [.int .i64 x.i]) (fun x => [tlbE _ x.ls x.f x.m, tlbR _ x.ls x.f x.m]) (fun x => x.i ≤ 300 ∧ TI x.ls) (fun x => 300 - x.i) rfl rfl ⟨0, S0, 0, 0⟩ ⟨by simp, TI0⟩ rfl ⟨_, rfl⟩ (fun st hst => ?_)
    | refine YQ.idxS tabOk rfl ha st.i (List.getElem?_eq_getElem (by omega)) (by omega) (fun ad hd => ?_)
    | refine YQ.loadS tabOk hd rfl rfl ?_
    | refine YC.con [0, 1] _ rfl rfl (fun w _ hw => does_con _ _ st.ls hst.2 st.f st.m _ w hw) (fun x L' hx => ?_)
    | refine YC.con [0, 1] _ rfl rfl (fun w _ hw => alike_con _ _ (doL _ st.ls) (TI_do hst.2 _).len _ _ w hw) (fun x L' hx => ?_)
    | refine ⟨⟨st.i + 1, doL acts[st.i] st.ls, doF acts[st.i] st.ls st.f, doM acts[st.i] st.ls st.m⟩, ⟨by show st.i + 1 ≤ 300; omega, TI_do hst.2 _⟩, by show 300 - (st.i + 1) < 300 - st.i; omega, rfl, ⟨_, rfl⟩⟩
    | refine Fin.take 0 (And.intro ?_ rfl)
    | (obtain ⟨rfl, rfl⟩ := hx; refine ⟨rfl, ?_⟩)
    | (obtain ⟨b, rfl, rfl⟩ := hx; refine ⟨rfl, ?_⟩)
    | (obtain ⟨b, c, rfl, rfl⟩ := hx; refine ⟨rfl, ?_⟩)
    | refine gsplit.tt ?_
    | refine gsplit.ff ?_
    | refine gsplit.dpos (by omega) ?_
    | refine gsplit.dneg (by omega) ?_
    | refine gsplit.npos (by omega) ?_
    | refine gsplit.nneg (by omega) ?_
    | refine gsplit.dec (fun hc => ?_) (fun hc => ?_)
    | refine gsplit.ndec (fun hc => ?_) (fun hc => ?_)
    | refine BIf.pos rfl ?_
    | refine BIf.neg rfl ?_
    | refine Wr.i64 (by omega) ?_
    | refine Wr.u8 (by omega) ?_
    | refine Wr.u16 (by omega) ?_
    | refine Wr.u32 (by omega) ?_
    | refine YQ.remN (by omega) ?_
    | refine YQ.quoN (by omega) ?_
    | refine YQ.len tabOk rfl ?_
    | refine YQ.idx tabOk rfl (by omega) ?_
    | refine YQ.idxA tabOk rfl (by omega) ?_
    | refine YQ.sliceA tabOk rfl (by omega) (by omega) ?_
    | refine YQ.sliceAll tabOk rfl ?_
    | refine YQ.load1 tabOk rfl 0 rfl rfl ?_
    | refine YQ.load1 tabOk rfl 1 rfl rfl ?_
    | refine YQ.load1 tabOk rfl 2 rfl rfl ?_
    | refine YQ.load1 tabOk rfl 3 rfl rfl ?_
    | refine YQ.load1 tabOk rfl 4 rfl rfl ?_
    | refine YQ.load1 tabOk rfl 5 rfl rfl ?_
    | refine YQ.loadF tabOk rfl 0 rfl rfl ?_
    | refine YQ.loadF tabOk rfl 1 rfl rfl ?_
    | refine YQ.loadF tabOk rfl 2 rfl rfl ?_
    | refine YQ.loadF tabOk rfl 3 rfl rfl ?_
    | refine YQ.loadF tabOk rfl 4 rfl rfl ?_
    | refine YQ.loadF tabOk rfl 5 rfl rfl ?_
    | refine YQ.loadA tabOk rfl 0 rfl rfl rfl ?_
    | refine YQ.loadA tabOk rfl 1 rfl rfl rfl ?_
    | refine YQ.loadA tabOk rfl 2 rfl rfl rfl ?_
    | refine YQ.loadA tabOk rfl 3 rfl rfl rfl ?_
    | refine YQ.loadA tabOk rfl 4 rfl rfl rfl ?_
    | refine YU.store1L tabOk rfl rfl 0 rfl rfl ?_
    | refine YU.store1L tabOk rfl rfl 1 rfl rfl ?_
    | refine YU.store1L tabOk rfl rfl 2 rfl rfl ?_
    | refine YU.store1L tabOk rfl rfl 3 rfl rfl ?_
    | refine YU.store1L tabOk rfl rfl 4 rfl rfl ?_
    | refine YU.storeF tabOk rfl rfl rfl 0 rfl rfl ?_
    | refine YU.storeF tabOk rfl rfl rfl 1 rfl rfl ?_
    | refine YU.storeF tabOk rfl rfl rfl 2 rfl rfl ?_
    | refine YU.storeF tabOk rfl rfl rfl 3 rfl rfl ?_
    | refine YU.storeF tabOk rfl rfl rfl 4 rfl rfl ?_
    | refine YU.storeF tabOk rfl rfl rfl 5 rfl rfl ?_
    | refine YU.storeAL tabOk rfl rfl rfl 0 rfl rfl ?_
    | refine YU.storeAL tabOk rfl rfl rfl 1 rfl rfl ?_
    | refine YU.storeAL tabOk rfl rfl rfl 2 rfl rfl ?_
    | refine YU.storeAL tabOk rfl rfl rfl 3 rfl rfl ?_
    | refine YU.storeAL tabOk rfl rfl rfl 4 rfl rfl ?_
    | refine YQ.build tabOk rfl rfl rfl ?_
    | refine YQ.eqF tabOk rfl rfl rfl ?_
    | refine YQ.neF tabOk rfl rfl rfl ?_
    | refine gsplit.eq (fun hc => ?_) (fun hc => ?_)
    | refine gsplit.neq (fun hc => ?_) (fun hc => ?_)
    | refine Dr.all (by kernel_rfl) ?_
    | intro b)
  all_goals first
    | rfl
    | (exfalso; omega)
theorem rd_act {W : World} {n : Nat} {cs : List Value} (h : Rd Try.prog W n 68 cs) : ∃ x : Ac, cs = acV x := by
  obtain ⟨hl, m, hf⟩ := rd_struct h Try.underlying68
  have hc : Try.prog.cellsOf 68 = 10 := by kernel_rfl
  have hi : Try.prog.cellsOf 3 = 1 := by kernel_rfl
  have h5 : Try.prog.cellsOf 23 = 5 := by kernel_rfl
  rw [hc] at hl
  obtain ⟨c0, c1, c2, c3, c4, c5, c6, c7, c8, c9, rfl⟩ : ∃ a b c d e f g h i j, cs = [a, b, c, d, e, f, g, h, i, j] := by
    match cs, hl with
    | [a, b, c, d, e, f, g, h, i, j], _ => exact ⟨a, b, c, d, e, f, g, h, i, j, rfl⟩
  obtain ⟨d, h0, -⟩ := rd_int (hf 0 _ rfl) Try.underlying3
  obtain ⟨at_, h1, -⟩ := rd_int (hf 1 _ rfl) Try.underlying3
  obtain ⟨l, h2, -⟩ := rd_line (hf 2 _ rfl)
  obtain ⟨v, h3, -⟩ := rd_int (hf 3 _ rfl) Try.underlying3
  obtain ⟨a, h4, -⟩ := rd_int (hf 4 _ rfl) Try.underlying3
  obtain ⟨p, h5', -⟩ := rd_int (hf 5 _ rfl) Try.underlying3
  simp [hi] at h0 h1 h3 h4 h5'
  simp [h5, lnV] at h2
  obtain ⟨e2, e3, e4, e5, e6⟩ := h2
  exact ⟨⟨d, at_, l, v, a, p⟩, by rw [h0, h1, h3, h4, h5', e2, e3, e4, e5, e6]; rfl⟩
theorem rd_acts {W : World} {n : Nat} {a : Option Addr} {len cap : Nat} (h : Rd Try.prog W n 60 (Value.slice a len cap).cells.toList) : ∃ acts : List Ac, acts.length = len ∧ len ≤ cap ∧ True ∧ Arr W 10 acV a acts := by
  obtain ⟨acts, h1, h2, h3, h4⟩ := rd_arr h Try.underlying60 (by kernel_rfl) (fun k es hl hR => rd_act hR)
  exact ⟨acts, h1, h2, trivial, h4⟩
theorem tlbPlays_walk (a0 : Option Addr) (len0 cap0 n0 : Nat) {W : World} (rd0 : Rd Try.prog W n0 60 (Value.slice a0 len0 cap0).cells.toList) :
    Calls Try.prog 13 #[.slice a0 len0 cap0] W fun e w' => e = .returned (.bool true) ∧ RowKit.Below W.heap.size W w' := by
  obtain ⟨acts, h1, h2, h3, h4⟩ := rd_acts rd0
  exact (tlbPlays_con a0 len0 cap0 acts W h1 h4).law
end Go.Proofs.Ytmpjdoodpkhmpaa
