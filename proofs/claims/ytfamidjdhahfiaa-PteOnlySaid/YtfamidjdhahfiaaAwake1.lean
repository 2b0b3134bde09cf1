/- The examples of the memory come out; an act by both. Conditions: none. -/
import Derived.Test.YtfamidjdhahfiaaRamB
import Derived.Test.YtfamidjdhahfiaaFrame
set_option linter.unusedVariables false
set_option linter.unusedSimpArgs false
set_option linter.unusedSectionVars false
set_option maxRecDepth 10000
set_option maxHeartbeats 4000000
namespace Go.Proofs.Ytfamidjdhahfiaa
open Vc Mem
namespace A1
def x0 : List Int := List.replicate (2 * 64) 0
def x1 : List Int := storeL 2 x0 4 4 287454020
def x2 : List Int := layX 2 x1 1 [9, 8]
theorem l0 : x0.length = 2 * 64 := by kernel_rfl
theorem l1 : x1.length = 2 * 64 := by kernel_rfl
theorem l2 : x2.length = 2 * 64 := by kernel_rfl
theorem y0 : By x0 := By.rep _
theorem y1 : By x1 := y0.store _ _ _ _
theorem y2 : By x2 := By.layX y1 (by intro i x h; match i, h with | 0, h => cases h; omega | 1, h => cases h; omega) l1 1
theorem s0 : storeL 2 (List.replicate (2 * 64) 0) 4 4 287454020 = x1 := rfl
theorem s1 : layX 2 x1 1 [9, 8] = x2 := rfl
theorem a1 : loadE 2 x1 4 1 = 68 := by kernel_rfl
theorem a2 : loadE 2 x1 6 2 = 4386 := by kernel_rfl
theorem a3 : loadE 2 x1 3 3 = 0 := by kernel_rfl
theorem a4 : loadE 2 x1 (-1) 2 = 0 := by kernel_rfl
theorem a5 : loadE 2 x1 128 1 = 0 := by kernel_rfl
theorem a6 : loadE 2 x2 64 2 = 2057 := by kernel_rfl
theorem b0 : bad 2 4 4 = 0 := by kernel_rfl
theorem b1 : bad 2 4 1 = 0 := by kernel_rfl
theorem b2 : bad 2 6 2 = 0 := by kernel_rfl
theorem b3 : bad 2 3 3 = 1 := by kernel_rfl
theorem b4 : bad 2 (-1) 2 = 11 := by kernel_rfl
theorem b5 : bad 2 128 1 = 10 := by kernel_rfl
theorem b6 : bad 2 64 2 = 0 := by kernel_rfl
theorem e1 : layE 2 1 2 = 0 := by kernel_rfl
end A1
theorem awake1_aux (x1 x2 : List Int) (l0 : (List.replicate (2 * 64) (0 : Int)).length = 2 * 64) (y1 : By x1) (l1 : x1.length = 2 * 64) (y2 : By x2) (l2 : x2.length = 2 * 64)
    (s0 : storeL 2 (List.replicate (2 * 64) 0) 4 4 287454020 = x1) (s1 : layX 2 x1 1 [9, 8] = x2)
    (a1 : loadE 2 x1 4 1 = 68) (a2 : loadE 2 x1 6 2 = 4386) (a6 : loadE 2 x2 64 2 = 2057)
    (b0 : bad 2 4 4 = 0) (b1 : bad 2 4 1 = 0) (b2 : bad 2 6 2 = 0) (b3 : bad 2 3 3 = 1) (b4 : bad 2 (-1) 2 = 11) (b5 : bad 2 128 1 = 10) (b6 : bad 2 64 2 = 0) (e1 : layE 2 1 2 = 0) (w : World) :
    Con Try.prog 10 [] w [] (fun x L' => x = .bool true ∧ L' = []) := by
  refine Con.of_vc tabOk 118 [.tmp 0] Try.func10 rfl Try.ntmps10 Try.results10 rfl (Own.nil' w) ?_
  repeat' ((conv => whnf); first
    | (simp only [s0, s1, a1, a2, a6, b0, b1, b2, b3, b4, b5, b6, e1, List.length_cons, List.length_nil] at hx)
    | (obtain ⟨rfl, rfl⟩ := hx; refine ⟨rfl, ?_⟩)
    | (obtain ⟨b, rfl, rfl⟩ := hx; refine ⟨rfl, ?_⟩)
    | (obtain ⟨b, c, rfl, rfl⟩ := hx; refine ⟨rfl, ?_⟩)
    | (show gsplit _ _ _; first | refine gsplit.tt ?_ | refine gsplit.ff ?_ | refine gsplit.dpos (by omega) ?_ | refine gsplit.dneg (by omega) ?_ | refine gsplit.npos (by omega) ?_ | refine gsplit.nneg (by omega) ?_ | refine gsplit.dec (fun hc => ?_) (fun hc => ?_) | refine gsplit.ndec (fun hc => ?_) (fun hc => ?_) | refine gsplit.eq (fun hc => ?_) (fun hc => ?_) | refine gsplit.neq (fun hc => ?_) (fun hc => ?_))
    | (show YQ _ _ _ _ _ _; first | refine qeqp Try.underlying25 ?_ | refine YQ.remN (by omega) ?_ | refine YQ.quoN (by omega) ?_ | refine YQ.len tabOk rfl ?_ | refine YQ.idx tabOk rfl (by omega) ?_ | refine YQ.idxA tabOk rfl (by omega) ?_ | refine YQ.sliceA tabOk rfl (by omega) (by omega) ?_ | refine YQ.sliceAll tabOk rfl ?_ | refine YQ.load1 tabOk rfl 0 rfl rfl ?_ | refine YQ.load1 tabOk rfl 1 rfl rfl ?_ | refine YQ.load1 tabOk rfl 2 rfl rfl ?_ | refine YQ.load1 tabOk rfl 3 rfl rfl ?_ | refine YQ.load1 tabOk rfl 4 rfl rfl ?_ | refine YQ.load1 tabOk rfl 5 rfl rfl ?_ | refine YQ.loadF tabOk rfl 0 rfl rfl ?_ | refine YQ.loadF tabOk rfl 1 rfl rfl ?_ | refine YQ.loadF tabOk rfl 2 rfl rfl ?_ | refine YQ.loadF tabOk rfl 3 rfl rfl ?_ | refine YQ.loadF tabOk rfl 4 rfl rfl ?_ | refine YQ.loadF tabOk rfl 5 rfl rfl ?_ | refine YQ.loadA tabOk rfl 0 rfl rfl rfl ?_ | refine YQ.loadA tabOk rfl 1 rfl rfl rfl ?_ | refine YQ.loadA tabOk rfl 2 rfl rfl rfl ?_ | refine YQ.loadA tabOk rfl 3 rfl rfl rfl ?_ | refine YQ.loadA tabOk rfl 4 rfl rfl rfl ?_ | refine YQ.build tabOk rfl rfl rfl ?_ | refine YQ.eqF tabOk rfl rfl rfl ?_ | refine YQ.neF tabOk rfl rfl rfl ?_)
    | (show YC _ _ _ _ _ _ _; first | refine YC.conR [] [] rfl rfl (fun w _ _ => ramNew_ok 2 2 (by omega) w) (fun x L' hx => ?_) | refine YC.conR [] [] rfl rfl (fun w _ _ => ramNew_no 0 (by omega) w) (fun x L' hx => ?_) | refine YC.conR [0, 1] _ rfl rfl (fun w hw0 hw => store_con _ _ 2 (by omega) (List.replicate (2 * 64) 0) l0 4 4 287454020 (by omega) w hw) (fun x L' hx => ?_) | refine YC.conR [0, 1] _ rfl rfl (fun w hw0 hw => load_con _ _ 2 (by omega) x1 y1 l1 _ _ w hw) (fun x L' hx => ?_) | refine YC.conR [0, 1] _ rfl rfl (fun w hw0 hw => load_con _ _ 2 (by omega) x2 y2 l2 _ _ w hw) (fun x L' hx => ?_) | refine YC.conR [0, 1] _ rfl rfl (fun w hw0 hw => lay_con _ _ 2 (by omega) x1 l1 1 [9, 8] _ _ w (Arr.apartO (is := [0, 1]) hw0 rfl 2 rfl rfl rfl (hw0.bytes 2 rfl)) hw) (fun x L' hx => ?_))
    | (show YW _ _ _ _ _ _; first | refine YW.lit slU8 rfl (by omega) (fun b => ?_))
    | (show YU _ _ _ _ _ _ _ _; first | refine YU.store1L tabOk rfl rfl 0 rfl rfl ?_ | refine YU.store1L tabOk rfl rfl 1 rfl rfl ?_ | refine YU.store1L tabOk rfl rfl 2 rfl rfl ?_ | refine YU.store1L tabOk rfl rfl 3 rfl rfl ?_ | refine YU.store1L tabOk rfl rfl 4 rfl rfl ?_ | refine YU.storeF tabOk rfl rfl rfl 0 rfl rfl ?_ | refine YU.storeF tabOk rfl rfl rfl 1 rfl rfl ?_ | refine YU.storeF tabOk rfl rfl rfl 2 rfl rfl ?_ | refine YU.storeF tabOk rfl rfl rfl 3 rfl rfl ?_ | refine YU.storeF tabOk rfl rfl rfl 4 rfl rfl ?_ | refine YU.storeF tabOk rfl rfl rfl 5 rfl rfl ?_ | refine YU.storeAL tabOk rfl rfl rfl 0 rfl rfl ?_ | refine YU.storeAL tabOk rfl rfl rfl 1 rfl rfl ?_ | refine YU.storeAL tabOk rfl rfl rfl 2 rfl rfl ?_ | refine YU.storeAL tabOk rfl rfl rfl 3 rfl rfl ?_ | refine YU.storeAL tabOk rfl rfl rfl 4 rfl rfl ?_)
    | (show Wr _ _ _; first | refine Wr.i64 (by omega) ?_ | refine Wr.u8 (by omega) ?_ | refine Wr.u16 (by omega) ?_ | refine Wr.u32 (by omega) ?_)
    | (show BIf _ _ _; first | refine BIf.pos rfl ?_ | refine BIf.neg rfl ?_)
    | (show Dr _ _ _ _ _ _ _ _ _; first | refine Dr.all (by kernel_rfl) ?_)
    | (show Vc.Fin _ _ _; first | refine Fin.take 0 (And.intro ?_ rfl))
    | intro b)
  all_goals rfl
open A1 in
theorem awake1_con (w : World) : Con Try.prog 10 [] w [] (fun x L' => x = .bool true ∧ L' = []) :=
  awake1_aux x1 x2 l0 y1 l1 y2 l2 s0 s1 a1 a2 a6 b0 b1 b2 b3 b4 b5 b6 e1 w
/-- An act upon the memory. -/
structure RAc where
  d : Int
  a : Int
  s : Int
  w : Int
  b : Option Addr
  bl : Nat
  bc : Nat
def racV (x : RAc) : List Value := [.int .i64 x.d, .int .i64 x.a, .int .i64 x.s, .int .u32 x.w, .slice x.b x.bl x.bc]
def rdoX (n : Nat) (xs : List Int) (x : RAc) (bs : List Int) : List Int :=
  if x.d = 2 then storeL n xs x.a x.s x.w else if x.d = 4 then layX n xs x.a bs else if x.d = 5 then clrX n xs x.a else xs
theorem rdoX_length {n : Nat} {xs : List Int} (hl : xs.length = n * 64) (x : RAc) (bs : List Int) : (rdoX n xs x bs).length = n * 64 := by
  unfold rdoX
  split
  · rw [storeL_length, hl]
  · split
    · exact layX_length hl _ _
    · split
      · exact clrX_length hl _
      · exact hl
theorem By.rdo {n : Nat} {xs bs : List Int} (hx : By xs) (hb : By bs) (hl : xs.length = n * 64) (x : RAc) : By (rdoX n xs x bs) := by
  unfold rdoX
  split
  · exact hx.store _ _ _ _
  · split
    · exact By.layX hx hb hl _
    · split
      · exact By.clrX hx hl _
      · exact hx
theorem rdoes_con (p F q B n : Nat) (hn : n ≤ 1024) (xs : List Int) (hx0 : By xs) (hl : xs.length = n * 64) (x : RAc) (hxw : 0 ≤ x.w ∧ x.w ≤ 4294967295) (bs : List Int) (hbl : bs.length = x.bl) (hbm : x.bl ≤ 140737488355328) (w : World)
    (ha : ArrF w [p, F, q, B] 1 u8V x.b bs) (hw : Own w [ramE p F n, frE F xs, refE q B n, byE B xs]) :
    Con Try.prog 13 [.pointer (some ⟨p, 0, none⟩), .pointer (some ⟨q, 0, none⟩), .agg (racV x).toArray] w [ramE p F n, frE F xs, refE q B n, byE B xs]
      (fun y L' => y = .bool true ∧ L' = [ramE p F n, frE F (rdoX n xs x bs), refE q B n, byE B (rdoX n xs x bs)]) := by
  obtain ⟨d, a, s, v, b, bl, bc⟩ := x
  dsimp only at hxw hbl hbm ha
  subst hbl
  by_cases d1 : d = 1
  · have e1 : rdoX n xs ⟨d, a, s, v, b, bs.length, bc⟩ bs = xs := by simp [rdoX, d1]
    rw [e1]
    refine Con.of_vc tabOk 158 [.tmp 6] Try.func13 rfl Try.ntmps13 Try.results13 rfl hw ?_
    repeat' ((conv => whnf); first
      | (obtain ⟨rfl, rfl⟩ := hx; refine ⟨rfl, ?_⟩)
      | (obtain ⟨b, rfl, rfl⟩ := hx; refine ⟨rfl, ?_⟩)
      | (obtain ⟨b, c, rfl, rfl⟩ := hx; refine ⟨rfl, ?_⟩)
      | (show gsplit _ _ _; first | refine gsplit.tt ?_ | refine gsplit.ff ?_ | refine gsplit.dpos (by omega) ?_ | refine gsplit.dneg (by omega) ?_ | refine gsplit.npos (by omega) ?_ | refine gsplit.nneg (by omega) ?_ | refine gsplit.dec (fun hc => ?_) (fun hc => ?_) | refine gsplit.ndec (fun hc => ?_) (fun hc => ?_) | refine gsplit.eq (fun hc => ?_) (fun hc => ?_) | refine gsplit.neq (fun hc => ?_) (fun hc => ?_))
      | (show YQ _ _ _ _ _ _; first | refine YQ.remN (by omega) ?_ | refine YQ.quoN (by omega) ?_ | refine YQ.len tabOk rfl ?_ | refine YQ.idx tabOk rfl (by omega) ?_ | refine YQ.idxA tabOk rfl (by omega) ?_ | refine YQ.sliceA tabOk rfl (by omega) (by omega) ?_ | refine YQ.sliceAll tabOk rfl ?_ | refine YQ.load1 tabOk rfl 0 rfl rfl ?_ | refine YQ.load1 tabOk rfl 1 rfl rfl ?_ | refine YQ.load1 tabOk rfl 2 rfl rfl ?_ | refine YQ.load1 tabOk rfl 3 rfl rfl ?_ | refine YQ.load1 tabOk rfl 4 rfl rfl ?_ | refine YQ.load1 tabOk rfl 5 rfl rfl ?_ | refine YQ.loadF tabOk rfl 0 rfl rfl ?_ | refine YQ.loadF tabOk rfl 1 rfl rfl ?_ | refine YQ.loadF tabOk rfl 2 rfl rfl ?_ | refine YQ.loadF tabOk rfl 3 rfl rfl ?_ | refine YQ.loadF tabOk rfl 4 rfl rfl ?_ | refine YQ.loadF tabOk rfl 5 rfl rfl ?_ | refine YQ.loadA tabOk rfl 0 rfl rfl rfl ?_ | refine YQ.loadA tabOk rfl 1 rfl rfl rfl ?_ | refine YQ.loadA tabOk rfl 2 rfl rfl rfl ?_ | refine YQ.loadA tabOk rfl 3 rfl rfl rfl ?_ | refine YQ.loadA tabOk rfl 4 rfl rfl rfl ?_ | refine YQ.build tabOk rfl rfl rfl ?_ | refine YQ.eqF tabOk rfl rfl rfl ?_ | refine YQ.neF tabOk rfl rfl rfl ?_)
      | (show YC _ _ _ _ _ _ _; first | refine YC.conR [0, 1] _ rfl rfl (fun w hw0 hw => load_con p F n hn xs hx0 hl a s w hw) (fun x L' hx => ?_) | refine YC.conR [2, 3] _ rfl rfl (fun w hw0 hw => rload_con q B n hn xs hx0 hl a s w hw) (fun x L' hx => ?_))
      | (show YU _ _ _ _ _ _ _ _; first | refine YU.store1L tabOk rfl rfl 0 rfl rfl ?_ | refine YU.store1L tabOk rfl rfl 1 rfl rfl ?_ | refine YU.store1L tabOk rfl rfl 2 rfl rfl ?_ | refine YU.store1L tabOk rfl rfl 3 rfl rfl ?_ | refine YU.store1L tabOk rfl rfl 4 rfl rfl ?_ | refine YU.storeF tabOk rfl rfl rfl 0 rfl rfl ?_ | refine YU.storeF tabOk rfl rfl rfl 1 rfl rfl ?_ | refine YU.storeF tabOk rfl rfl rfl 2 rfl rfl ?_ | refine YU.storeF tabOk rfl rfl rfl 3 rfl rfl ?_ | refine YU.storeF tabOk rfl rfl rfl 4 rfl rfl ?_ | refine YU.storeF tabOk rfl rfl rfl 5 rfl rfl ?_ | refine YU.storeAL tabOk rfl rfl rfl 0 rfl rfl ?_ | refine YU.storeAL tabOk rfl rfl rfl 1 rfl rfl ?_ | refine YU.storeAL tabOk rfl rfl rfl 2 rfl rfl ?_ | refine YU.storeAL tabOk rfl rfl rfl 3 rfl rfl ?_ | refine YU.storeAL tabOk rfl rfl rfl 4 rfl rfl ?_)
      | (show Wr _ _ _; first | refine Wr.i64 (by omega) ?_ | refine Wr.u8 (by omega) ?_ | refine Wr.u16 (by omega) ?_ | refine Wr.u32 (by omega) ?_)
      | (show BIf _ _ _; first | refine BIf.pos rfl ?_ | refine BIf.neg rfl ?_)
      | (show Dr _ _ _ _ _ _ _ _ _; first | refine Dr.all (by kernel_rfl) ?_)
      | (show Vc.Fin _ _ _; first | refine Fin.take 4 (And.intro ?_ rfl))
      | intro b)
    all_goals first
      | rfl
      | (show Value.bool _ = Value.bool _; congr 1; simp; done)
      | contradiction
      | (exfalso; omega)
  by_cases d2 : d = 2
  · have e1 : rdoX n xs ⟨d, a, s, v, b, bs.length, bc⟩ bs = storeL n xs a s v := by simp [rdoX, d2]
    rw [e1]
    refine Con.of_vc tabOk 158 [.tmp 6] Try.func13 rfl Try.ntmps13 Try.results13 rfl hw ?_
    repeat' ((conv => whnf); first
      | (obtain ⟨rfl, rfl⟩ := hx; refine ⟨rfl, ?_⟩)
      | (obtain ⟨b, rfl, rfl⟩ := hx; refine ⟨rfl, ?_⟩)
      | (obtain ⟨b, c, rfl, rfl⟩ := hx; refine ⟨rfl, ?_⟩)
      | (show gsplit _ _ _; first | refine gsplit.tt ?_ | refine gsplit.ff ?_ | refine gsplit.dpos (by omega) ?_ | refine gsplit.dneg (by omega) ?_ | refine gsplit.npos (by omega) ?_ | refine gsplit.nneg (by omega) ?_ | refine gsplit.dec (fun hc => ?_) (fun hc => ?_) | refine gsplit.ndec (fun hc => ?_) (fun hc => ?_) | refine gsplit.eq (fun hc => ?_) (fun hc => ?_) | refine gsplit.neq (fun hc => ?_) (fun hc => ?_))
      | (show YQ _ _ _ _ _ _; first | refine YQ.remN (by omega) ?_ | refine YQ.quoN (by omega) ?_ | refine YQ.len tabOk rfl ?_ | refine YQ.idx tabOk rfl (by omega) ?_ | refine YQ.idxA tabOk rfl (by omega) ?_ | refine YQ.sliceA tabOk rfl (by omega) (by omega) ?_ | refine YQ.sliceAll tabOk rfl ?_ | refine YQ.load1 tabOk rfl 0 rfl rfl ?_ | refine YQ.load1 tabOk rfl 1 rfl rfl ?_ | refine YQ.load1 tabOk rfl 2 rfl rfl ?_ | refine YQ.load1 tabOk rfl 3 rfl rfl ?_ | refine YQ.load1 tabOk rfl 4 rfl rfl ?_ | refine YQ.load1 tabOk rfl 5 rfl rfl ?_ | refine YQ.loadF tabOk rfl 0 rfl rfl ?_ | refine YQ.loadF tabOk rfl 1 rfl rfl ?_ | refine YQ.loadF tabOk rfl 2 rfl rfl ?_ | refine YQ.loadF tabOk rfl 3 rfl rfl ?_ | refine YQ.loadF tabOk rfl 4 rfl rfl ?_ | refine YQ.loadF tabOk rfl 5 rfl rfl ?_ | refine YQ.loadA tabOk rfl 0 rfl rfl rfl ?_ | refine YQ.loadA tabOk rfl 1 rfl rfl rfl ?_ | refine YQ.loadA tabOk rfl 2 rfl rfl rfl ?_ | refine YQ.loadA tabOk rfl 3 rfl rfl rfl ?_ | refine YQ.loadA tabOk rfl 4 rfl rfl rfl ?_ | refine YQ.build tabOk rfl rfl rfl ?_ | refine YQ.eqF tabOk rfl rfl rfl ?_ | refine YQ.neF tabOk rfl rfl rfl ?_)
      | (show YC _ _ _ _ _ _ _; first | refine YC.conR [0, 1] _ rfl rfl (fun w hw0 hw => store_con p F n hn xs hl a s v hxw w hw) (fun x L' hx => ?_) | refine YC.conR [2, 3] _ rfl rfl (fun w hw0 hw => rstore_con q B n hn xs hl a s v hxw w hw) (fun x L' hx => ?_))
      | (show YU _ _ _ _ _ _ _ _; first | refine YU.store1L tabOk rfl rfl 0 rfl rfl ?_ | refine YU.store1L tabOk rfl rfl 1 rfl rfl ?_ | refine YU.store1L tabOk rfl rfl 2 rfl rfl ?_ | refine YU.store1L tabOk rfl rfl 3 rfl rfl ?_ | refine YU.store1L tabOk rfl rfl 4 rfl rfl ?_ | refine YU.storeF tabOk rfl rfl rfl 0 rfl rfl ?_ | refine YU.storeF tabOk rfl rfl rfl 1 rfl rfl ?_ | refine YU.storeF tabOk rfl rfl rfl 2 rfl rfl ?_ | refine YU.storeF tabOk rfl rfl rfl 3 rfl rfl ?_ | refine YU.storeF tabOk rfl rfl rfl 4 rfl rfl ?_ | refine YU.storeF tabOk rfl rfl rfl 5 rfl rfl ?_ | refine YU.storeAL tabOk rfl rfl rfl 0 rfl rfl ?_ | refine YU.storeAL tabOk rfl rfl rfl 1 rfl rfl ?_ | refine YU.storeAL tabOk rfl rfl rfl 2 rfl rfl ?_ | refine YU.storeAL tabOk rfl rfl rfl 3 rfl rfl ?_ | refine YU.storeAL tabOk rfl rfl rfl 4 rfl rfl ?_)
      | (show Wr _ _ _; first | refine Wr.i64 (by omega) ?_ | refine Wr.u8 (by omega) ?_ | refine Wr.u16 (by omega) ?_ | refine Wr.u32 (by omega) ?_)
      | (show BIf _ _ _; first | refine BIf.pos rfl ?_ | refine BIf.neg rfl ?_)
      | (show Dr _ _ _ _ _ _ _ _ _; first | refine Dr.all (by kernel_rfl) ?_)
      | (show Vc.Fin _ _ _; first | refine Fin.take 4 (And.intro ?_ rfl))
      | intro b)
    all_goals first
      | rfl
      | (show Value.bool _ = Value.bool _; congr 1; simp; done)
      | contradiction
      | (exfalso; omega)
  by_cases d4 : d = 4
  · have e1 : rdoX n xs ⟨d, a, s, v, b, bs.length, bc⟩ bs = layX n xs a bs := by simp [rdoX, d4]
    rw [e1]
    refine Con.of_vc tabOk 158 [.tmp 6] Try.func13 rfl Try.ntmps13 Try.results13 rfl hw ?_
    repeat' ((conv => whnf); first
      | (obtain ⟨rfl, rfl⟩ := hx; refine ⟨rfl, ?_⟩)
      | (obtain ⟨b, rfl, rfl⟩ := hx; refine ⟨rfl, ?_⟩)
      | (obtain ⟨b, c, rfl, rfl⟩ := hx; refine ⟨rfl, ?_⟩)
      | (show gsplit _ _ _; first | refine gsplit.tt ?_ | refine gsplit.ff ?_ | refine gsplit.dpos (by omega) ?_ | refine gsplit.dneg (by omega) ?_ | refine gsplit.npos (by omega) ?_ | refine gsplit.nneg (by omega) ?_ | refine gsplit.dec (fun hc => ?_) (fun hc => ?_) | refine gsplit.ndec (fun hc => ?_) (fun hc => ?_) | refine gsplit.eq (fun hc => ?_) (fun hc => ?_) | refine gsplit.neq (fun hc => ?_) (fun hc => ?_))
      | (show YQ _ _ _ _ _ _; first | refine YQ.idx tabOk rfl (by omega) ?_ | refine YQ.remN (by omega) ?_ | refine YQ.quoN (by omega) ?_ | refine YQ.len tabOk rfl ?_ | refine YQ.idx tabOk rfl (by omega) ?_ | refine YQ.idxA tabOk rfl (by omega) ?_ | refine YQ.sliceA tabOk rfl (by omega) (by omega) ?_ | refine YQ.sliceAll tabOk rfl ?_ | refine YQ.load1 tabOk rfl 0 rfl rfl ?_ | refine YQ.load1 tabOk rfl 1 rfl rfl ?_ | refine YQ.load1 tabOk rfl 2 rfl rfl ?_ | refine YQ.load1 tabOk rfl 3 rfl rfl ?_ | refine YQ.load1 tabOk rfl 4 rfl rfl ?_ | refine YQ.load1 tabOk rfl 5 rfl rfl ?_ | refine YQ.loadF tabOk rfl 0 rfl rfl ?_ | refine YQ.loadF tabOk rfl 1 rfl rfl ?_ | refine YQ.loadF tabOk rfl 2 rfl rfl ?_ | refine YQ.loadF tabOk rfl 3 rfl rfl ?_ | refine YQ.loadF tabOk rfl 4 rfl rfl ?_ | refine YQ.loadF tabOk rfl 5 rfl rfl ?_ | refine YQ.loadA tabOk rfl 0 rfl rfl rfl ?_ | refine YQ.loadA tabOk rfl 1 rfl rfl rfl ?_ | refine YQ.loadA tabOk rfl 2 rfl rfl rfl ?_ | refine YQ.loadA tabOk rfl 3 rfl rfl rfl ?_ | refine YQ.loadA tabOk rfl 4 rfl rfl rfl ?_ | refine YQ.build tabOk rfl rfl rfl ?_ | refine YQ.eqF tabOk rfl rfl rfl ?_ | refine YQ.neF tabOk rfl rfl rfl ?_)
      | (show YC _ _ _ _ _ _ _; first | refine YC.conR [0, 1] _ rfl rfl (fun w hw0 hw => lay_con p F n hn xs hl a bs _ _ w (Arr.apartO (is := [0, 1]) hw0 rfl 5 rfl rfl rfl (hw0.arr (fun _ => rfl) 5 rfl)) hw) (fun x L' hx => ?_) | refine YC.conR [2, 3] _ rfl rfl (fun w hw0 hw => rlay_con q B n hn xs hl a bs _ _ w (ha.sub hw0 (by simp)) hw) (fun x L' hx => ?_) | refine YC.conR [] [] rfl rfl (fun w hw0 _ => same_bytes bs bs hbm _ _ _ _ w (hw0.arr (fun _ => rfl) 5 rfl) (ha.later hw0)) (fun x L' hx => ?_))
      | (show YW _ _ _ _ _ _; first | refine YW.lit slU8 rfl (by omega) (fun b => ?_) | refine YW.appendE (k := bs.length) (news := rows u8V bs) slU8 5 rfl (Rdy.arrF Try.underlying33 (fun _ => rfl) (fun _ => rfl) ha rfl) (by omega) (fun b' cap' sl' h1 h2 => ?_))
      | (show YU _ _ _ _ _ _ _ _; first | refine YU.store1 tabOk rfl rfl 4 rfl (by omega) ?_ | refine YU.store1L tabOk rfl rfl 0 rfl rfl ?_ | refine YU.store1L tabOk rfl rfl 1 rfl rfl ?_ | refine YU.store1L tabOk rfl rfl 2 rfl rfl ?_ | refine YU.store1L tabOk rfl rfl 3 rfl rfl ?_ | refine YU.store1L tabOk rfl rfl 4 rfl rfl ?_ | refine YU.storeF tabOk rfl rfl rfl 0 rfl rfl ?_ | refine YU.storeF tabOk rfl rfl rfl 1 rfl rfl ?_ | refine YU.storeF tabOk rfl rfl rfl 2 rfl rfl ?_ | refine YU.storeF tabOk rfl rfl rfl 3 rfl rfl ?_ | refine YU.storeF tabOk rfl rfl rfl 4 rfl rfl ?_ | refine YU.storeF tabOk rfl rfl rfl 5 rfl rfl ?_ | refine YU.storeAL tabOk rfl rfl rfl 0 rfl rfl ?_ | refine YU.storeAL tabOk rfl rfl rfl 1 rfl rfl ?_ | refine YU.storeAL tabOk rfl rfl rfl 2 rfl rfl ?_ | refine YU.storeAL tabOk rfl rfl rfl 3 rfl rfl ?_ | refine YU.storeAL tabOk rfl rfl rfl 4 rfl rfl ?_)
      | (show Wr _ _ _; first | refine Wr.i64 (by omega) ?_ | refine Wr.u8 (by omega) ?_ | refine Wr.u16 (by omega) ?_ | refine Wr.u32 (by omega) ?_)
      | (show BIf _ _ _; first | refine BIf.pos rfl ?_ | refine BIf.neg rfl ?_)
      | (show Lp _ _ _ _ _; first | refine Lp.sub (α := Nat × List Value) [17] [13, 14, 15, 16] _ (fun x => [.int .i64 x.1]) (fun x => [ramE p F n, frE F (layX n xs a bs), refE q B n, byE B (layX n xs a bs), ⟨_, 5, x.2⟩]) (fun x => x.1 ≤ bs.length ∧ bs.length ≤ x.2.length) (fun x => bs.length - x.1) rfl rfl ⟨0, rows u8V bs ++ sl'⟩ ⟨by simp, by rw [List.length_append, rows_u8, ints_length]; omega⟩ rfl ⟨[0, 1, 2, 3, 5], rfl, rfl⟩ (fun st hst => ?_))
      | (show Dr _ _ _ _ _ _ _ _ _; first | refine Dr.all (by kernel_rfl) ?_)
      | (show Vc.Fin _ _ _; first | refine Fin.take 4 (And.intro ?_ rfl))
      | refine ⟨⟨st.1 + 1, _⟩, ⟨by show st.1 + 1 ≤ _; omega, by rw [List.length_set]; exact hst.2⟩, by show bs.length - (st.1 + 1) < bs.length - st.1; omega, rfl, [0, 1, 2, 3, 4], rfl, rfl⟩
      | intro b)
    all_goals first
      | rfl
      | (show Value.bool _ = Value.bool _; congr 1; simp; done)
      | contradiction
      | (exfalso; omega)
  by_cases d5 : d = 5
  · have e1 : rdoX n xs ⟨d, a, s, v, b, bs.length, bc⟩ bs = clrX n xs a := by simp [rdoX, d5]
    rw [e1]
    refine Con.of_vc tabOk 158 [.tmp 6] Try.func13 rfl Try.ntmps13 Try.results13 rfl hw ?_
    repeat' ((conv => whnf); first
      | (obtain ⟨rfl, rfl⟩ := hx; refine ⟨rfl, ?_⟩)
      | (obtain ⟨b, rfl, rfl⟩ := hx; refine ⟨rfl, ?_⟩)
      | (obtain ⟨b, c, rfl, rfl⟩ := hx; refine ⟨rfl, ?_⟩)
      | (show gsplit _ _ _; first | refine gsplit.tt ?_ | refine gsplit.ff ?_ | refine gsplit.dpos (by omega) ?_ | refine gsplit.dneg (by omega) ?_ | refine gsplit.npos (by omega) ?_ | refine gsplit.nneg (by omega) ?_ | refine gsplit.dec (fun hc => ?_) (fun hc => ?_) | refine gsplit.ndec (fun hc => ?_) (fun hc => ?_) | refine gsplit.eq (fun hc => ?_) (fun hc => ?_) | refine gsplit.neq (fun hc => ?_) (fun hc => ?_))
      | (show YQ _ _ _ _ _ _; first | refine YQ.remN (by omega) ?_ | refine YQ.quoN (by omega) ?_ | refine YQ.len tabOk rfl ?_ | refine YQ.idx tabOk rfl (by omega) ?_ | refine YQ.idxA tabOk rfl (by omega) ?_ | refine YQ.sliceA tabOk rfl (by omega) (by omega) ?_ | refine YQ.sliceAll tabOk rfl ?_ | refine YQ.load1 tabOk rfl 0 rfl rfl ?_ | refine YQ.load1 tabOk rfl 1 rfl rfl ?_ | refine YQ.load1 tabOk rfl 2 rfl rfl ?_ | refine YQ.load1 tabOk rfl 3 rfl rfl ?_ | refine YQ.load1 tabOk rfl 4 rfl rfl ?_ | refine YQ.load1 tabOk rfl 5 rfl rfl ?_ | refine YQ.loadF tabOk rfl 0 rfl rfl ?_ | refine YQ.loadF tabOk rfl 1 rfl rfl ?_ | refine YQ.loadF tabOk rfl 2 rfl rfl ?_ | refine YQ.loadF tabOk rfl 3 rfl rfl ?_ | refine YQ.loadF tabOk rfl 4 rfl rfl ?_ | refine YQ.loadF tabOk rfl 5 rfl rfl ?_ | refine YQ.loadA tabOk rfl 0 rfl rfl rfl ?_ | refine YQ.loadA tabOk rfl 1 rfl rfl rfl ?_ | refine YQ.loadA tabOk rfl 2 rfl rfl rfl ?_ | refine YQ.loadA tabOk rfl 3 rfl rfl rfl ?_ | refine YQ.loadA tabOk rfl 4 rfl rfl rfl ?_ | refine YQ.build tabOk rfl rfl rfl ?_ | refine YQ.eqF tabOk rfl rfl rfl ?_ | refine YQ.neF tabOk rfl rfl rfl ?_)
      | (show YC _ _ _ _ _ _ _; first | refine YC.conR [0, 1] _ rfl rfl (fun w hw0 hw => clear_con p F n hn xs hl a w hw) (fun x L' hx => ?_) | refine YC.conR [2, 3] _ rfl rfl (fun w hw0 hw => rclear_con q B n hn xs hl a w hw) (fun x L' hx => ?_))
      | (show YU _ _ _ _ _ _ _ _; first | refine YU.store1L tabOk rfl rfl 0 rfl rfl ?_ | refine YU.store1L tabOk rfl rfl 1 rfl rfl ?_ | refine YU.store1L tabOk rfl rfl 2 rfl rfl ?_ | refine YU.store1L tabOk rfl rfl 3 rfl rfl ?_ | refine YU.store1L tabOk rfl rfl 4 rfl rfl ?_ | refine YU.storeF tabOk rfl rfl rfl 0 rfl rfl ?_ | refine YU.storeF tabOk rfl rfl rfl 1 rfl rfl ?_ | refine YU.storeF tabOk rfl rfl rfl 2 rfl rfl ?_ | refine YU.storeF tabOk rfl rfl rfl 3 rfl rfl ?_ | refine YU.storeF tabOk rfl rfl rfl 4 rfl rfl ?_ | refine YU.storeF tabOk rfl rfl rfl 5 rfl rfl ?_ | refine YU.storeAL tabOk rfl rfl rfl 0 rfl rfl ?_ | refine YU.storeAL tabOk rfl rfl rfl 1 rfl rfl ?_ | refine YU.storeAL tabOk rfl rfl rfl 2 rfl rfl ?_ | refine YU.storeAL tabOk rfl rfl rfl 3 rfl rfl ?_ | refine YU.storeAL tabOk rfl rfl rfl 4 rfl rfl ?_)
      | (show Wr _ _ _; first | refine Wr.i64 (by omega) ?_ | refine Wr.u8 (by omega) ?_ | refine Wr.u16 (by omega) ?_ | refine Wr.u32 (by omega) ?_)
      | (show BIf _ _ _; first | refine BIf.pos rfl ?_ | refine BIf.neg rfl ?_)
      | (show Dr _ _ _ _ _ _ _ _ _; first | refine Dr.all (by kernel_rfl) ?_)
      | (show Vc.Fin _ _ _; first | refine Fin.take 4 (And.intro ?_ rfl))
      | intro b)
    all_goals first
      | rfl
      | (show Value.bool _ = Value.bool _; congr 1; simp; done)
      | contradiction
      | (exfalso; omega)
  have e1 : rdoX n xs ⟨d, a, s, v, b, bs.length, bc⟩ bs = xs := by simp [rdoX, d2, d4, d5]
  rw [e1]
  by_cases hk : thereP n a
  · have hfl : (frm xs a.toNat).length = 64 := by unfold thereP at hk; exact frm_length hl (by omega)
    have hsb := same_bytes (frm xs a.toNat) (frm xs a.toNat) (by omega)
    rw [hfl] at hsb
    refine Con.of_vc tabOk 158 [.tmp 6] Try.func13 rfl Try.ntmps13 Try.results13 rfl hw ?_
    repeat' ((conv => whnf); first
      | (obtain ⟨rfl, rfl⟩ := hx; refine ⟨rfl, ?_⟩)
      | (obtain ⟨b, rfl, rfl⟩ := hx; refine ⟨rfl, ?_⟩)
      | (obtain ⟨b, c, rfl, rfl⟩ := hx; refine ⟨rfl, ?_⟩)
      | (obtain ⟨b, c, sl, hc64, rfl, rfl⟩ := hx; refine ⟨rfl, ?_⟩)
      | (obtain ⟨rfl, rfl⟩ := hx; refine ⟨rfl, ?_⟩)
      | (obtain ⟨b, rfl, rfl⟩ := hx; refine ⟨rfl, ?_⟩)
      | (obtain ⟨b, c, rfl, rfl⟩ := hx; refine ⟨rfl, ?_⟩)
      | (show gsplit _ _ _; first | refine gsplit.tt ?_ | refine gsplit.ff ?_ | refine gsplit.dpos (by omega) ?_ | refine gsplit.dneg (by omega) ?_ | refine gsplit.npos (by omega) ?_ | refine gsplit.nneg (by omega) ?_ | refine gsplit.dec (fun hc => ?_) (fun hc => ?_) | refine gsplit.ndec (fun hc => ?_) (fun hc => ?_) | refine gsplit.eq (fun hc => ?_) (fun hc => ?_) | refine gsplit.neq (fun hc => ?_) (fun hc => ?_))
      | (show YQ _ _ _ _ _ _; first | refine YQ.idx tabOk rfl (by omega) ?_ | refine YQ.remN (by omega) ?_ | refine YQ.quoN (by omega) ?_ | refine YQ.len tabOk rfl ?_ | refine YQ.idx tabOk rfl (by omega) ?_ | refine YQ.idxA tabOk rfl (by omega) ?_ | refine YQ.sliceA tabOk rfl (by omega) (by omega) ?_ | refine YQ.sliceAll tabOk rfl ?_ | refine YQ.load1 tabOk rfl 0 rfl rfl ?_ | refine YQ.load1 tabOk rfl 1 rfl rfl ?_ | refine YQ.load1 tabOk rfl 2 rfl rfl ?_ | refine YQ.load1 tabOk rfl 3 rfl rfl ?_ | refine YQ.load1 tabOk rfl 4 rfl rfl ?_ | refine YQ.load1 tabOk rfl 5 rfl rfl ?_ | refine YQ.loadF tabOk rfl 0 rfl rfl ?_ | refine YQ.loadF tabOk rfl 1 rfl rfl ?_ | refine YQ.loadF tabOk rfl 2 rfl rfl ?_ | refine YQ.loadF tabOk rfl 3 rfl rfl ?_ | refine YQ.loadF tabOk rfl 4 rfl rfl ?_ | refine YQ.loadF tabOk rfl 5 rfl rfl ?_ | refine YQ.loadA tabOk rfl 0 rfl rfl rfl ?_ | refine YQ.loadA tabOk rfl 1 rfl rfl rfl ?_ | refine YQ.loadA tabOk rfl 2 rfl rfl rfl ?_ | refine YQ.loadA tabOk rfl 3 rfl rfl rfl ?_ | refine YQ.loadA tabOk rfl 4 rfl rfl rfl ?_ | refine YQ.build tabOk rfl rfl rfl ?_ | refine YQ.eqF tabOk rfl rfl rfl ?_ | refine YQ.neF tabOk rfl rfl rfl ?_)
      | (show YC _ _ _ _ _ _ _; first | refine YC.conR [0, 1] _ rfl rfl (fun w hw0 hw => frame_ok p F n hn xs hl a hk w hw) (fun x L' hx => ?_) | refine YC.conR [2, 3] _ rfl rfl (fun w hw0 hw => rframe_ok q B n hn xs hl a hk w hw) (fun x L' hx => ?_) | refine YC.conR [] [] rfl rfl (fun w hw0 _ => hsb _ _ _ _ w (hw0.bytes 5 rfl) (hw0.arr (ls := frm xs a.toNat) (tl := sl) (fun _ => rfl) 6 (by rw [rows_u8]; rfl))) (fun x L' hx => ?_))
      | (show YU _ _ _ _ _ _ _ _; first | refine YU.store1 tabOk rfl rfl 4 rfl (by omega) ?_ | refine YU.store1L tabOk rfl rfl 0 rfl rfl ?_ | refine YU.store1L tabOk rfl rfl 1 rfl rfl ?_ | refine YU.store1L tabOk rfl rfl 2 rfl rfl ?_ | refine YU.store1L tabOk rfl rfl 3 rfl rfl ?_ | refine YU.store1L tabOk rfl rfl 4 rfl rfl ?_ | refine YU.storeF tabOk rfl rfl rfl 0 rfl rfl ?_ | refine YU.storeF tabOk rfl rfl rfl 1 rfl rfl ?_ | refine YU.storeF tabOk rfl rfl rfl 2 rfl rfl ?_ | refine YU.storeF tabOk rfl rfl rfl 3 rfl rfl ?_ | refine YU.storeF tabOk rfl rfl rfl 4 rfl rfl ?_ | refine YU.storeF tabOk rfl rfl rfl 5 rfl rfl ?_ | refine YU.storeAL tabOk rfl rfl rfl 0 rfl rfl ?_ | refine YU.storeAL tabOk rfl rfl rfl 1 rfl rfl ?_ | refine YU.storeAL tabOk rfl rfl rfl 2 rfl rfl ?_ | refine YU.storeAL tabOk rfl rfl rfl 3 rfl rfl ?_ | refine YU.storeAL tabOk rfl rfl rfl 4 rfl rfl ?_)
      | (show Wr _ _ _; first | refine Wr.i64 (by omega) ?_ | refine Wr.u8 (by omega) ?_ | refine Wr.u16 (by omega) ?_ | refine Wr.u32 (by omega) ?_)
      | (show BIf _ _ _; first | refine BIf.pos rfl ?_ | refine BIf.neg rfl ?_)
      | (show Lp _ _ _ _ _; first | refine Lp.sub (α := Nat × List Value) [25] [20, 21, 23, 24] _ (fun x => [.int .i64 x.1]) (fun x => [ramE p F n, frE F xs, refE q B n, byE B xs, ⟨_, 92, x.2⟩]) (fun x => x.1 ≤ 64 ∧ x.2.length = 64) (fun x => 64 - x.1) rfl rfl ⟨0, ints .u8 (frm xs a.toNat)⟩ ⟨by simp, by rw [ints_length, hfl]⟩ rfl ⟨[0, 1, 2, 3, 5], rfl, rfl⟩ (fun st hst => ?_))
      | (show Dr _ _ _ _ _ _ _ _ _; first | refine Dr.all (by kernel_rfl) ?_)
      | (show Vc.Fin _ _ _; first | refine Fin.take 4 (And.intro ?_ rfl))
      | refine ⟨⟨st.1 + 1, _⟩, ⟨by show st.1 + 1 ≤ _; omega, by rw [List.length_set]; exact hst.2⟩, by show 64 - (st.1 + 1) < 64 - st.1; omega, rfl, [0, 1, 2, 3, 4], rfl, rfl⟩
      | intro b)
    all_goals first
      | rfl
      | (show Value.bool _ = Value.bool _; congr 1; simp; done)
      | contradiction
      | (exfalso; omega)
  · have hsb := same_bytes [] [] (by simp)
    refine Con.of_vc tabOk 158 [.tmp 6] Try.func13 rfl Try.ntmps13 Try.results13 rfl hw ?_
    repeat' ((conv => whnf); first
      | (obtain ⟨rfl, rfl⟩ := hx; refine ⟨rfl, ?_⟩)
      | (obtain ⟨b, rfl, rfl⟩ := hx; refine ⟨rfl, ?_⟩)
      | (obtain ⟨b, c, rfl, rfl⟩ := hx; refine ⟨rfl, ?_⟩)
      | (show gsplit _ _ _; first | refine gsplit.tt ?_ | refine gsplit.ff ?_ | refine gsplit.dpos (by omega) ?_ | refine gsplit.dneg (by omega) ?_ | refine gsplit.npos (by omega) ?_ | refine gsplit.nneg (by omega) ?_ | refine gsplit.dec (fun hc => ?_) (fun hc => ?_) | refine gsplit.ndec (fun hc => ?_) (fun hc => ?_) | refine gsplit.eq (fun hc => ?_) (fun hc => ?_) | refine gsplit.neq (fun hc => ?_) (fun hc => ?_))
      | (show YQ _ _ _ _ _ _; first | refine YQ.remN (by omega) ?_ | refine YQ.quoN (by omega) ?_ | refine YQ.len tabOk rfl ?_ | refine YQ.idx tabOk rfl (by omega) ?_ | refine YQ.idxA tabOk rfl (by omega) ?_ | refine YQ.sliceA tabOk rfl (by omega) (by omega) ?_ | refine YQ.sliceAll tabOk rfl ?_ | refine YQ.load1 tabOk rfl 0 rfl rfl ?_ | refine YQ.load1 tabOk rfl 1 rfl rfl ?_ | refine YQ.load1 tabOk rfl 2 rfl rfl ?_ | refine YQ.load1 tabOk rfl 3 rfl rfl ?_ | refine YQ.load1 tabOk rfl 4 rfl rfl ?_ | refine YQ.load1 tabOk rfl 5 rfl rfl ?_ | refine YQ.loadF tabOk rfl 0 rfl rfl ?_ | refine YQ.loadF tabOk rfl 1 rfl rfl ?_ | refine YQ.loadF tabOk rfl 2 rfl rfl ?_ | refine YQ.loadF tabOk rfl 3 rfl rfl ?_ | refine YQ.loadF tabOk rfl 4 rfl rfl ?_ | refine YQ.loadF tabOk rfl 5 rfl rfl ?_ | refine YQ.loadA tabOk rfl 0 rfl rfl rfl ?_ | refine YQ.loadA tabOk rfl 1 rfl rfl rfl ?_ | refine YQ.loadA tabOk rfl 2 rfl rfl rfl ?_ | refine YQ.loadA tabOk rfl 3 rfl rfl rfl ?_ | refine YQ.loadA tabOk rfl 4 rfl rfl rfl ?_ | refine YQ.build tabOk rfl rfl rfl ?_ | refine YQ.eqF tabOk rfl rfl rfl ?_ | refine YQ.neF tabOk rfl rfl rfl ?_)
      | (show YC _ _ _ _ _ _ _; first | refine YC.conR [0, 1] _ rfl rfl (fun w hw0 hw => frame_no p F n hn xs a hk w hw) (fun x L' hx => ?_) | refine YC.conR [2, 3] _ rfl rfl (fun w hw0 hw => rframe_no q B n hn xs a hk w hw) (fun x L' hx => ?_) | refine YC.conR [] [] rfl rfl (fun w hw0 _ => hsb none none 0 0 w (fun j x hj => by simp at hj) (fun j x hj => by simp at hj)) (fun x L' hx => ?_))
      | (show YU _ _ _ _ _ _ _ _; first | refine YU.store1L tabOk rfl rfl 0 rfl rfl ?_ | refine YU.store1L tabOk rfl rfl 1 rfl rfl ?_ | refine YU.store1L tabOk rfl rfl 2 rfl rfl ?_ | refine YU.store1L tabOk rfl rfl 3 rfl rfl ?_ | refine YU.store1L tabOk rfl rfl 4 rfl rfl ?_ | refine YU.storeF tabOk rfl rfl rfl 0 rfl rfl ?_ | refine YU.storeF tabOk rfl rfl rfl 1 rfl rfl ?_ | refine YU.storeF tabOk rfl rfl rfl 2 rfl rfl ?_ | refine YU.storeF tabOk rfl rfl rfl 3 rfl rfl ?_ | refine YU.storeF tabOk rfl rfl rfl 4 rfl rfl ?_ | refine YU.storeF tabOk rfl rfl rfl 5 rfl rfl ?_ | refine YU.storeAL tabOk rfl rfl rfl 0 rfl rfl ?_ | refine YU.storeAL tabOk rfl rfl rfl 1 rfl rfl ?_ | refine YU.storeAL tabOk rfl rfl rfl 2 rfl rfl ?_ | refine YU.storeAL tabOk rfl rfl rfl 3 rfl rfl ?_ | refine YU.storeAL tabOk rfl rfl rfl 4 rfl rfl ?_)
      | (show Wr _ _ _; first | refine Wr.i64 (by omega) ?_ | refine Wr.u8 (by omega) ?_ | refine Wr.u16 (by omega) ?_ | refine Wr.u32 (by omega) ?_)
      | (show BIf _ _ _; first | refine BIf.pos rfl ?_ | refine BIf.neg rfl ?_)
      | (show Lp _ _ _ _ _; first | refine Lp.rounds 1 ?_)
      | (show Dr _ _ _ _ _ _ _ _ _; first | refine Dr.all (by kernel_rfl) ?_)
      | (show Vc.Fin _ _ _; first | refine Fin.take 4 (And.intro ?_ rfl))
      | intro b)
    all_goals first
      | rfl
      | (show Value.bool _ = Value.bool _; congr 1; simp; done)
      | contradiction
      | (exfalso; omega)
end Go.Proofs.Ytfamidjdhahfiaa
