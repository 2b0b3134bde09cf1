/- Walks over tables in memory: the program's and the document's are one reading of the bytes. Conditions: none. -/
import Derived.Test.YtggbhokhibfdmaaPteP
set_option linter.unusedVariables false
set_option linter.unusedSimpArgs false
set_option linter.unusedSectionVars false
set_option maxRecDepth 10000
set_option maxHeartbeats 8000000
namespace Go.Proofs.Ytggbhokhibfdmaa
open Vc Mem
/-- A fault. -/
structure Fa where
  k : Int
  st : Int
  lv : Int
  wk : Bool
  pg : Int
def faV (f : Fa) : List Value := [.int .i64 f.k, .int .i64 f.st, .int .i64 f.lv, .bool f.wk, .int .i64 f.pg]
theorem faV_len (f : Fa) : (faV f).length = 5 := rfl
abbrev faA (f : Fa) : Value := .agg (faV f).toArray
def fa0 : Fa := ⟨0, 0, 0, false, 0⟩
/-- A space. -/
structure Sp where
  vm : Int
  sid : Int
  fi : Int
  se : Int
def spV (s : Sp) : List Value := [.int .i64 s.vm, .int .i64 s.sid, .int .i64 s.fi, .int .i64 s.se]
abbrev spA (s : Sp) : Value := .agg (spV s).toArray
abbrev band (a b : Int) : Int := Vc.bits .and .i64 a b
/-- What an entry of a level is. -/
def stpK (n : Nat) (xs : List Int) (t pg lv : Int) : Int :=
  if t < 0 ∨ (n : Int) ≤ t then 3 else if ¬ getE n xs t (indexI pg lv) = 0 then 1 else if (getX n xs t (indexI pg lv)).v = false then 1 else if (getX n xs t (indexI pg lv)).l = decide (lv = 1) then 0 else 1
def stpX (n : Nat) (xs : List Int) (t pg lv : Int) : Et := if stpK n xs t pg lv = 0 then getX n xs t (indexI pg lv) else et0
structure R3 where
  a : Int
  b : Int
  f : Fa
abbrev r3V (r : R3) : Value := .tuple #[.int .i64 r.a, .int .i64 r.b, faA r.f]
def sgl (n : Nat) (xs : List Int) (root pg : Int) : R3 :=
  if ¬ (0 ≤ pg ∧ pg ≤ 1023) then ⟨0, 0, ⟨3, 0, 0, false, 0⟩⟩
  else if ¬ stpK n xs root pg 0 = 0 then ⟨0, 0, ⟨stpK n xs root pg 0, 2, 0, false, pg⟩⟩
  else if ¬ stpK n xs (stpX n xs root pg 0).f pg 1 = 0 then ⟨0, 0, ⟨stpK n xs (stpX n xs root pg 0).f pg 1, 2, 1, false, pg⟩⟩
  else ⟨(stpX n xs (stpX n xs root pg 0).f pg 1).f, (stpX n xs (stpX n xs root pg 0).f pg 1).r, fa0⟩
def scd (n : Nat) (xs : List Int) (root pg want : Int) : R3 :=
  if ¬ (sgl n xs root pg).f.k = 0 then ⟨0, 0, (sgl n xs root pg).f⟩
  else if band (sgl n xs root pg).b want = 0 then ⟨0, 0, ⟨2, 2, 1, false, pg⟩⟩
  else ⟨(sgl n xs root pg).a, (sgl n xs root pg).b, fa0⟩
structure G2 where
  x : Et
  f : Fa
abbrev g2V (g : G2) : Value := .tuple #[etA g.x, faA g.f]
def gst (n : Nat) (xs : List Int) (se g pg lv : Int) : G2 :=
  if ¬ (scd n xs se g 1).f.k = 0 then ⟨et0, ⟨(scd n xs se g 1).f.k, (scd n xs se g 1).f.st, (scd n xs se g 1).f.lv, true, (scd n xs se g 1).f.pg⟩⟩
  else if ¬ stpK n xs (scd n xs se g 1).a pg lv = 0 then ⟨et0, ⟨stpK n xs (scd n xs se g 1).a pg lv, 1, lv, false, pg⟩⟩
  else ⟨stpX n xs (scd n xs se g 1).a pg lv, fa0⟩
def own (n : Nat) (xs : List Int) (s : Sp) (pg : Int) : G2 :=
  if ¬ (gst n xs s.se s.fi pg 0).f.k = 0 then gst n xs s.se s.fi pg 0 else gst n xs s.se (gst n xs s.se s.fi pg 0).x.f pg 1
def okP (pg want : Int) : Prop := (0 ≤ pg ∧ pg ≤ 1023) ∧ (want = 1 ∨ want = 2 ∨ want = 4)
def nst (n : Nat) (xs : List Int) (s : Sp) (pg want : Int) : R3 :=
  if ¬ ((0 ≤ pg ∧ pg ≤ 1023) ∧ (want = 1 ∨ want = 2 ∨ want = 4)) then ⟨0, 0, ⟨3, 0, 0, false, 0⟩⟩
  else if s.fi < 0 then scd n xs s.se pg want
  else if ¬ (own n xs s pg).f.k = 0 then ⟨0, 0, (own n xs s pg).f⟩
  else if band (own n xs s pg).x.r want = 0 then ⟨0, 0, ⟨2, 1, 1, false, pg⟩⟩
  else ⟨(scd n xs s.se (own n xs s pg).x.f want).a, band (scd n xs s.se (own n xs s pg).x.f want).b (own n xs s pg).x.r, (scd n xs s.se (own n xs s pg).x.f want).f⟩
theorem isPage_con (pg : Int) (w : World) : Con Try.prog 65 [.int .i64 pg] w [] (fun y L' => y = .bool (decide (0 ≤ pg ∧ pg ≤ 1023)) ∧ L' = []) := by
  refine Con.of_vc tabOk 9 [.tmp 2] Try.func65 rfl Try.ntmps65 Try.results65 rfl (Own.nil' w) ?_
  repeat' ((conv => whnf); first
    | (show _ ∧ _; first | (obtain ⟨rfl, rfl⟩ := hx; refine ⟨rfl, ?_⟩) | (obtain ⟨b, rfl, rfl⟩ := hx; refine ⟨rfl, ?_⟩) | (obtain ⟨b, c, rfl, rfl⟩ := hx; refine ⟨rfl, ?_⟩))
    | (show gsplit _ _ _; first | refine gsplit.tt ?_ | refine gsplit.ff ?_ | refine gsplit.dpos (by omega) ?_ | refine gsplit.dneg (by omega) ?_ | refine gsplit.npos (by omega) ?_ | refine gsplit.nneg (by omega) ?_ | refine gsplit.dec (fun hc => ?_) (fun hc => ?_) | refine gsplit.ndec (fun hc => ?_) (fun hc => ?_) | refine gsplit.eq (fun hc => ?_) (fun hc => ?_) | refine gsplit.neq (fun hc => ?_) (fun hc => ?_) | refine gsplit.mk (fun hb => ?_) (fun hb => ?_))
    | (show YQ _ _ _ _ _ _; first | refine YQ.remN (by omega) ?_ | refine YQ.quoN (by omega) ?_ | refine YQ.len tabOk rfl ?_ | refine YQ.idx tabOk rfl (by omega) ?_ | refine YQ.idxA tabOk rfl (by omega) ?_ | refine YQ.sliceA tabOk rfl (by omega) (by omega) ?_ | refine YQ.sliceAll tabOk rfl ?_ | refine YQ.load1 tabOk rfl 0 rfl rfl ?_ | refine YQ.load1 tabOk rfl 1 rfl rfl ?_ | refine YQ.load1 tabOk rfl 2 rfl rfl ?_ | refine YQ.load1 tabOk rfl 3 rfl rfl ?_ | refine YQ.load1 tabOk rfl 4 rfl rfl ?_ | refine YQ.load1 tabOk rfl 5 rfl rfl ?_ | refine YQ.load1 tabOk rfl 6 rfl rfl ?_ | refine YQ.load1 tabOk rfl 7 rfl rfl ?_ | refine YQ.load1 tabOk rfl 8 rfl rfl ?_ | refine YQ.load1 tabOk rfl 9 rfl rfl ?_ | refine YQ.load1 tabOk rfl 10 rfl rfl ?_ | refine YQ.load1 tabOk rfl 11 rfl rfl ?_ | refine YQ.load1 tabOk rfl 12 rfl rfl ?_ | refine YQ.loadF tabOk rfl 0 rfl rfl ?_ | refine YQ.loadF tabOk rfl 1 rfl rfl ?_ | refine YQ.loadF tabOk rfl 2 rfl rfl ?_ | refine YQ.loadF tabOk rfl 3 rfl rfl ?_ | refine YQ.loadF tabOk rfl 4 rfl rfl ?_ | refine YQ.loadF tabOk rfl 5 rfl rfl ?_ | refine YQ.loadF tabOk rfl 6 rfl rfl ?_ | refine YQ.loadF tabOk rfl 7 rfl rfl ?_ | refine YQ.loadF tabOk rfl 8 rfl rfl ?_ | refine YQ.loadF tabOk rfl 9 rfl rfl ?_ | refine YQ.loadF tabOk rfl 10 rfl rfl ?_ | refine YQ.loadF tabOk rfl 11 rfl rfl ?_ | refine YQ.loadF tabOk rfl 12 rfl rfl ?_ | refine YQ.loadA tabOk rfl 0 rfl rfl rfl ?_ | refine YQ.loadA tabOk rfl 1 rfl rfl rfl ?_ | refine YQ.loadA tabOk rfl 2 rfl rfl rfl ?_ | refine YQ.loadA tabOk rfl 3 rfl rfl rfl ?_ | refine YQ.loadA tabOk rfl 4 rfl rfl rfl ?_ | refine YQ.loadA tabOk rfl 5 rfl rfl rfl ?_ | refine YQ.loadA tabOk rfl 6 rfl rfl rfl ?_ | refine YQ.loadA tabOk rfl 7 rfl rfl rfl ?_ | refine YQ.loadA tabOk rfl 8 rfl rfl rfl ?_ | refine YQ.loadA tabOk rfl 9 rfl rfl rfl ?_ | refine YQ.loadA tabOk rfl 10 rfl rfl rfl ?_ | refine YQ.loadA tabOk rfl 11 rfl rfl rfl ?_ | refine YQ.loadA tabOk rfl 12 rfl rfl rfl ?_ | refine YQ.build tabOk rfl rfl rfl ?_ | refine YQ.eqF tabOk rfl rfl rfl ?_ | refine YQ.neF tabOk rfl rfl rfl ?_)
    | (show YU _ _ _ _ _ _ _ _; first | refine YU.store1L tabOk rfl rfl 0 rfl rfl ?_ | refine YU.store1L tabOk rfl rfl 1 rfl rfl ?_ | refine YU.store1L tabOk rfl rfl 2 rfl rfl ?_ | refine YU.store1L tabOk rfl rfl 3 rfl rfl ?_ | refine YU.store1L tabOk rfl rfl 4 rfl rfl ?_ | refine YU.store1L tabOk rfl rfl 5 rfl rfl ?_ | refine YU.store1L tabOk rfl rfl 6 rfl rfl ?_ | refine YU.store1L tabOk rfl rfl 7 rfl rfl ?_ | refine YU.store1L tabOk rfl rfl 8 rfl rfl ?_ | refine YU.store1L tabOk rfl rfl 9 rfl rfl ?_ | refine YU.store1L tabOk rfl rfl 10 rfl rfl ?_ | refine YU.store1L tabOk rfl rfl 11 rfl rfl ?_ | refine YU.store1L tabOk rfl rfl 12 rfl rfl ?_ | refine YU.storeF tabOk rfl rfl rfl 0 rfl rfl ?_ | refine YU.storeF tabOk rfl rfl rfl 1 rfl rfl ?_ | refine YU.storeF tabOk rfl rfl rfl 2 rfl rfl ?_ | refine YU.storeF tabOk rfl rfl rfl 3 rfl rfl ?_ | refine YU.storeF tabOk rfl rfl rfl 4 rfl rfl ?_ | refine YU.storeF tabOk rfl rfl rfl 5 rfl rfl ?_ | refine YU.storeF tabOk rfl rfl rfl 6 rfl rfl ?_ | refine YU.storeF tabOk rfl rfl rfl 7 rfl rfl ?_ | refine YU.storeF tabOk rfl rfl rfl 8 rfl rfl ?_ | refine YU.storeF tabOk rfl rfl rfl 9 rfl rfl ?_ | refine YU.storeF tabOk rfl rfl rfl 10 rfl rfl ?_ | refine YU.storeF tabOk rfl rfl rfl 11 rfl rfl ?_ | refine YU.storeF tabOk rfl rfl rfl 12 rfl rfl ?_ | refine YU.storeAL tabOk rfl rfl rfl 0 rfl rfl ?_ | refine YU.storeAL tabOk rfl rfl rfl 1 rfl rfl ?_ | refine YU.storeAL tabOk rfl rfl rfl 2 rfl rfl ?_ | refine YU.storeAL tabOk rfl rfl rfl 3 rfl rfl ?_ | refine YU.storeAL tabOk rfl rfl rfl 4 rfl rfl ?_ | refine YU.storeAL tabOk rfl rfl rfl 5 rfl rfl ?_ | refine YU.storeAL tabOk rfl rfl rfl 6 rfl rfl ?_ | refine YU.storeAL tabOk rfl rfl rfl 7 rfl rfl ?_ | refine YU.storeAL tabOk rfl rfl rfl 8 rfl rfl ?_ | refine YU.storeAL tabOk rfl rfl rfl 9 rfl rfl ?_ | refine YU.storeAL tabOk rfl rfl rfl 10 rfl rfl ?_ | refine YU.storeAL tabOk rfl rfl rfl 11 rfl rfl ?_ | refine YU.storeAL tabOk rfl rfl rfl 12 rfl rfl ?_)
    | (show Wr _ _ _; first | refine Wr.i64 (by omega) ?_ | refine Wr.u8 (by omega) ?_ | refine Wr.u16 (by omega) ?_ | refine Wr.u32 (by omega) ?_)
    | (show BIf _ _ _; first | refine BIf.pos rfl ?_ | refine BIf.neg rfl ?_)
    | (show Dr _ _ _ _ _ _ _ _ _; first | refine Dr.all (by kernel_rfl) ?_)
    | (show Fork _ _; first | refine Fork.mk ?_ ?_)
    | (show Vc.Fin _ _ _; first | refine Fin.take 0 (And.intro ?_ rfl))
    | intro b)
  all_goals
    show Value.bool _ = Value.bool _
    congr 1
    rw [Bool.eq_iff_iff]
    simp
    try omega
section
variable (p F n : Nat) (hn : n ≤ 1024) (xs : List Int) (hx0 : By xs) (hl : xs.length = n * 64)
include hn hx0 hl
theorem step_con (t pg lv : Int) (w : World) (hw : Own w [ramE p F n, frE F xs]) : Con Try.prog 66 [.agg #[.pointer (some ⟨p, 0, none⟩)], .int .i64 t, .int .i64 pg, .int .i64 lv] w [ramE p F n, frE F xs]
    (fun y L' => y = .tuple #[etA (stpX n xs t pg lv), .int .i64 (stpK n xs t pg lv)] ∧ L' = [ramE p F n, frE F xs]) := by
  refine Con.of_vc tabOk 48 [.cell 8 47, .tmp 9] Try.func66 rfl Try.ntmps66 Try.results66 rfl hw ?_
  repeat' ((conv => whnf); first
    | (show _ ∧ _; first | (obtain ⟨rfl, rfl⟩ := hx; refine ⟨rfl, ?_⟩) | (obtain ⟨b, rfl, rfl⟩ := hx; refine ⟨rfl, ?_⟩) | (obtain ⟨b, c, rfl, rfl⟩ := hx; refine ⟨rfl, ?_⟩))
    | (show gsplit _ _ _; first | refine gsplit.tt ?_ | refine gsplit.ff ?_ | refine gsplit.dpos (by omega) ?_ | refine gsplit.dneg (by omega) ?_ | refine gsplit.npos (by omega) ?_ | refine gsplit.nneg (by omega) ?_ | refine gsplit.dec (fun hc => ?_) (fun hc => ?_) | refine gsplit.ndec (fun hc => ?_) (fun hc => ?_) | refine gsplit.eq (fun hc => ?_) (fun hc => ?_) | refine gsplit.neq (fun hc => ?_) (fun hc => ?_) | refine gsplit.mk (fun hb => ?_) (fun hb => ?_))
    | (show YQ _ _ _ _ _ _; first | refine qneb Try.underlying4 ?_ | refine qeqb Try.underlying4 ?_ | refine YQ.remN (by omega) ?_ | refine YQ.quoN (by omega) ?_ | refine YQ.len tabOk rfl ?_ | refine YQ.idx tabOk rfl (by omega) ?_ | refine YQ.idxA tabOk rfl (by omega) ?_ | refine YQ.sliceA tabOk rfl (by omega) (by omega) ?_ | refine YQ.sliceAll tabOk rfl ?_ | refine YQ.load1 tabOk rfl 0 rfl rfl ?_ | refine YQ.load1 tabOk rfl 1 rfl rfl ?_ | refine YQ.load1 tabOk rfl 2 rfl rfl ?_ | refine YQ.load1 tabOk rfl 3 rfl rfl ?_ | refine YQ.load1 tabOk rfl 4 rfl rfl ?_ | refine YQ.load1 tabOk rfl 5 rfl rfl ?_ | refine YQ.load1 tabOk rfl 6 rfl rfl ?_ | refine YQ.load1 tabOk rfl 7 rfl rfl ?_ | refine YQ.load1 tabOk rfl 8 rfl rfl ?_ | refine YQ.load1 tabOk rfl 9 rfl rfl ?_ | refine YQ.load1 tabOk rfl 10 rfl rfl ?_ | refine YQ.load1 tabOk rfl 11 rfl rfl ?_ | refine YQ.load1 tabOk rfl 12 rfl rfl ?_ | refine YQ.loadF tabOk rfl 0 rfl rfl ?_ | refine YQ.loadF tabOk rfl 1 rfl rfl ?_ | refine YQ.loadF tabOk rfl 2 rfl rfl ?_ | refine YQ.loadF tabOk rfl 3 rfl rfl ?_ | refine YQ.loadF tabOk rfl 4 rfl rfl ?_ | refine YQ.loadF tabOk rfl 5 rfl rfl ?_ | refine YQ.loadF tabOk rfl 6 rfl rfl ?_ | refine YQ.loadF tabOk rfl 7 rfl rfl ?_ | refine YQ.loadF tabOk rfl 8 rfl rfl ?_ | refine YQ.loadF tabOk rfl 9 rfl rfl ?_ | refine YQ.loadF tabOk rfl 10 rfl rfl ?_ | refine YQ.loadF tabOk rfl 11 rfl rfl ?_ | refine YQ.loadF tabOk rfl 12 rfl rfl ?_ | refine YQ.loadA tabOk rfl 0 rfl rfl rfl ?_ | refine YQ.loadA tabOk rfl 1 rfl rfl rfl ?_ | refine YQ.loadA tabOk rfl 2 rfl rfl rfl ?_ | refine YQ.loadA tabOk rfl 3 rfl rfl rfl ?_ | refine YQ.loadA tabOk rfl 4 rfl rfl rfl ?_ | refine YQ.loadA tabOk rfl 5 rfl rfl rfl ?_ | refine YQ.loadA tabOk rfl 6 rfl rfl rfl ?_ | refine YQ.loadA tabOk rfl 7 rfl rfl rfl ?_ | refine YQ.loadA tabOk rfl 8 rfl rfl rfl ?_ | refine YQ.loadA tabOk rfl 9 rfl rfl rfl ?_ | refine YQ.loadA tabOk rfl 10 rfl rfl rfl ?_ | refine YQ.loadA tabOk rfl 11 rfl rfl rfl ?_ | refine YQ.loadA tabOk rfl 12 rfl rfl rfl ?_ | refine YQ.build tabOk rfl rfl rfl ?_ | refine YQ.eqF tabOk rfl rfl rfl ?_ | refine YQ.neF tabOk rfl rfl rfl ?_)
    | (show YC _ _ _ _ _ _ _; first | refine YC.conR [0] _ rfl rfl (fun w hw0 hw => frames_con p F n hn w hw) (fun x L' hx => ?_) | refine YC.conR [] [] rfl rfl (fun w _ _ => index_con pg lv w) (fun x L' hx => ?_) | refine YC.conR [0, 1] _ rfl rfl (fun w hw0 hw => get_con p F n hn xs hx0 hl t (indexI pg lv) w hw) (fun x L' hx => ?_))
    | (show YU _ _ _ _ _ _ _ _; first | refine YU.store1L tabOk rfl rfl 0 rfl rfl ?_ | refine YU.store1L tabOk rfl rfl 1 rfl rfl ?_ | refine YU.store1L tabOk rfl rfl 2 rfl rfl ?_ | refine YU.store1L tabOk rfl rfl 3 rfl rfl ?_ | refine YU.store1L tabOk rfl rfl 4 rfl rfl ?_ | refine YU.store1L tabOk rfl rfl 5 rfl rfl ?_ | refine YU.store1L tabOk rfl rfl 6 rfl rfl ?_ | refine YU.store1L tabOk rfl rfl 7 rfl rfl ?_ | refine YU.store1L tabOk rfl rfl 8 rfl rfl ?_ | refine YU.store1L tabOk rfl rfl 9 rfl rfl ?_ | refine YU.store1L tabOk rfl rfl 10 rfl rfl ?_ | refine YU.store1L tabOk rfl rfl 11 rfl rfl ?_ | refine YU.store1L tabOk rfl rfl 12 rfl rfl ?_ | refine YU.storeF tabOk rfl rfl rfl 0 rfl rfl ?_ | refine YU.storeF tabOk rfl rfl rfl 1 rfl rfl ?_ | refine YU.storeF tabOk rfl rfl rfl 2 rfl rfl ?_ | refine YU.storeF tabOk rfl rfl rfl 3 rfl rfl ?_ | refine YU.storeF tabOk rfl rfl rfl 4 rfl rfl ?_ | refine YU.storeF tabOk rfl rfl rfl 5 rfl rfl ?_ | refine YU.storeF tabOk rfl rfl rfl 6 rfl rfl ?_ | refine YU.storeF tabOk rfl rfl rfl 7 rfl rfl ?_ | refine YU.storeF tabOk rfl rfl rfl 8 rfl rfl ?_ | refine YU.storeF tabOk rfl rfl rfl 9 rfl rfl ?_ | refine YU.storeF tabOk rfl rfl rfl 10 rfl rfl ?_ | refine YU.storeF tabOk rfl rfl rfl 11 rfl rfl ?_ | refine YU.storeF tabOk rfl rfl rfl 12 rfl rfl ?_ | refine YU.storeAL tabOk rfl rfl rfl 0 rfl rfl ?_ | refine YU.storeAL tabOk rfl rfl rfl 1 rfl rfl ?_ | refine YU.storeAL tabOk rfl rfl rfl 2 rfl rfl ?_ | refine YU.storeAL tabOk rfl rfl rfl 3 rfl rfl ?_ | refine YU.storeAL tabOk rfl rfl rfl 4 rfl rfl ?_ | refine YU.storeAL tabOk rfl rfl rfl 5 rfl rfl ?_ | refine YU.storeAL tabOk rfl rfl rfl 6 rfl rfl ?_ | refine YU.storeAL tabOk rfl rfl rfl 7 rfl rfl ?_ | refine YU.storeAL tabOk rfl rfl rfl 8 rfl rfl ?_ | refine YU.storeAL tabOk rfl rfl rfl 9 rfl rfl ?_ | refine YU.storeAL tabOk rfl rfl rfl 10 rfl rfl ?_ | refine YU.storeAL tabOk rfl rfl rfl 11 rfl rfl ?_ | refine YU.storeAL tabOk rfl rfl rfl 12 rfl rfl ?_)
    | (show Wr _ _ _; first | refine Wr.i64 (by omega) ?_ | refine Wr.u8 (by omega) ?_ | refine Wr.u16 (by omega) ?_ | refine Wr.u32 (by omega) ?_)
    | (show BIf _ _ _; first | refine BIf.pos rfl ?_ | refine BIf.neg rfl ?_)
    | (show Dr _ _ _ _ _ _ _ _ _; first | (show Dr _ _ _ _ _ (Array.toList #[_, _, _, _, _, _, _, _, _, _, _, _, _]) _ _ _; refine Dr.any (.take 0 (.take 2 (.take 3 (.take 4 (.fork 1 (.fork 5 (.fork 6 (.take 7 (.take 8 (.take 9 (.one 10 (.one 11 (.one 12 .done)))))) (.one 10 (.one 6 (.one 7 (.take 8 (.take 9 (.one 11 (.one 12 .done)))))))) (.one 10 (.one 5 (.one 6 (.one 7 (.take 8 (.take 9 (.one 11 (.one 12 .done))))))))) (.fork 5 (.fork 1 (.fork 6 (.take 7 (.take 8 (.take 9 (.one 10 (.one 11 (.one 12 .done)))))) (.one 10 (.one 6 (.one 7 (.take 8 (.take 9 (.one 11 (.one 12 .done)))))))) (.one 10 (.one 1 (.one 6 (.one 7 (.take 8 (.take 9 (.one 11 (.one 12 .done))))))))) (.one 10 (.fork 1 (.one 5 (.one 6 (.one 7 (.take 8 (.take 9 (.one 11 (.one 12 .done))))))) (.one 5 (.one 1 (.one 6 (.one 7 (.take 8 (.take 9 (.one 11 (.one 12 .done)))))))))))))))) (by kernel_rfl) ?_) | refine Dr.all (by kernel_rfl) ?_)
    | (show Fork _ _; first | refine Fork.mk ?_ ?_)
    | (show Vc.Fin _ _ _; first | refine Fin.take 2 (And.intro ?_ rfl))
    | intro b)
  all_goals first
    | (have hk : stpK n xs t pg lv = 3 := if_pos (by omega)
       rw [show stpX n xs t pg lv = et0 from if_neg (by omega), hk]; rfl)
    | (have hk : stpK n xs t pg lv = 1 := (by unfold stpK; rw [if_neg (by omega)]; simp_all)
       rw [show stpX n xs t pg lv = et0 from if_neg (by omega), hk]; rfl)
    | (have hk : stpK n xs t pg lv = 0 := (by unfold stpK; rw [if_neg (by omega)]; simp_all)
       rw [show stpX n xs t pg lv = getX n xs t (indexI pg lv) from if_pos hk, hk]; rfl)
theorem single_con (root pg : Int) (w : World) (hw : Own w [ramE p F n, frE F xs]) : Con Try.prog 21 [.pointer (some ⟨p, 0, none⟩), .int .i64 root, .int .i64 pg] w [ramE p F n, frE F xs]
    (fun y L' => y = r3V (sgl n xs root pg) ∧ L' = [ramE p F n, frE F xs]) := by
  refine Con.of_vc tabOk 46 [.tmp 6, .tmp 7, .cell 8 56] Try.func21 rfl Try.ntmps21 Try.results21 rfl hw ?_
  repeat' ((conv => whnf); first
    | (show _ ∧ _; first | (obtain ⟨rfl, rfl⟩ := hx; refine ⟨rfl, ?_⟩) | (obtain ⟨b, rfl, rfl⟩ := hx; refine ⟨rfl, ?_⟩) | (obtain ⟨b, c, rfl, rfl⟩ := hx; refine ⟨rfl, ?_⟩))
    | (show gsplit _ _ _; first | refine gsplit.tt ?_ | refine gsplit.ff ?_ | refine gsplit.dpos (by omega) ?_ | refine gsplit.dneg (by omega) ?_ | refine gsplit.npos (by omega) ?_ | refine gsplit.nneg (by omega) ?_ | refine gsplit.dec (fun hc => ?_) (fun hc => ?_) | refine gsplit.ndec (fun hc => ?_) (fun hc => ?_) | refine gsplit.eq (fun hc => ?_) (fun hc => ?_) | refine gsplit.neq (fun hc => ?_) (fun hc => ?_) | refine gsplit.mk (fun hb => ?_) (fun hb => ?_))
    | (show YQ _ _ _ _ _ _; first | refine YQ.remN (by omega) ?_ | refine YQ.quoN (by omega) ?_ | refine YQ.len tabOk rfl ?_ | refine YQ.idx tabOk rfl (by omega) ?_ | refine YQ.idxA tabOk rfl (by omega) ?_ | refine YQ.sliceA tabOk rfl (by omega) (by omega) ?_ | refine YQ.sliceAll tabOk rfl ?_ | refine YQ.load1 tabOk rfl 0 rfl rfl ?_ | refine YQ.load1 tabOk rfl 1 rfl rfl ?_ | refine YQ.load1 tabOk rfl 2 rfl rfl ?_ | refine YQ.load1 tabOk rfl 3 rfl rfl ?_ | refine YQ.load1 tabOk rfl 4 rfl rfl ?_ | refine YQ.load1 tabOk rfl 5 rfl rfl ?_ | refine YQ.load1 tabOk rfl 6 rfl rfl ?_ | refine YQ.load1 tabOk rfl 7 rfl rfl ?_ | refine YQ.load1 tabOk rfl 8 rfl rfl ?_ | refine YQ.load1 tabOk rfl 9 rfl rfl ?_ | refine YQ.load1 tabOk rfl 10 rfl rfl ?_ | refine YQ.load1 tabOk rfl 11 rfl rfl ?_ | refine YQ.load1 tabOk rfl 12 rfl rfl ?_ | refine YQ.loadF tabOk rfl 0 rfl rfl ?_ | refine YQ.loadF tabOk rfl 1 rfl rfl ?_ | refine YQ.loadF tabOk rfl 2 rfl rfl ?_ | refine YQ.loadF tabOk rfl 3 rfl rfl ?_ | refine YQ.loadF tabOk rfl 4 rfl rfl ?_ | refine YQ.loadF tabOk rfl 5 rfl rfl ?_ | refine YQ.loadF tabOk rfl 6 rfl rfl ?_ | refine YQ.loadF tabOk rfl 7 rfl rfl ?_ | refine YQ.loadF tabOk rfl 8 rfl rfl ?_ | refine YQ.loadF tabOk rfl 9 rfl rfl ?_ | refine YQ.loadF tabOk rfl 10 rfl rfl ?_ | refine YQ.loadF tabOk rfl 11 rfl rfl ?_ | refine YQ.loadF tabOk rfl 12 rfl rfl ?_ | refine YQ.loadA tabOk rfl 0 rfl rfl rfl ?_ | refine YQ.loadA tabOk rfl 1 rfl rfl rfl ?_ | refine YQ.loadA tabOk rfl 2 rfl rfl rfl ?_ | refine YQ.loadA tabOk rfl 3 rfl rfl rfl ?_ | refine YQ.loadA tabOk rfl 4 rfl rfl rfl ?_ | refine YQ.loadA tabOk rfl 5 rfl rfl rfl ?_ | refine YQ.loadA tabOk rfl 6 rfl rfl rfl ?_ | refine YQ.loadA tabOk rfl 7 rfl rfl rfl ?_ | refine YQ.loadA tabOk rfl 8 rfl rfl rfl ?_ | refine YQ.loadA tabOk rfl 9 rfl rfl rfl ?_ | refine YQ.loadA tabOk rfl 10 rfl rfl rfl ?_ | refine YQ.loadA tabOk rfl 11 rfl rfl rfl ?_ | refine YQ.loadA tabOk rfl 12 rfl rfl rfl ?_ | refine YQ.build tabOk rfl rfl rfl ?_ | refine YQ.eqF tabOk rfl rfl rfl ?_ | refine YQ.neF tabOk rfl rfl rfl ?_)
    | (show YC _ _ _ _ _ _ _; first | refine YC.conR [] [] rfl rfl (fun w _ _ => isPage_con pg w) (fun x L' hx => ?_) | refine YC.conR [0, 1] _ rfl rfl (fun w hw0 hw => step_con p F n hn xs hx0 hl root pg 0 w hw) (fun x L' hx => ?_) | refine YC.conR [0, 1] _ rfl rfl (fun w hw0 hw => step_con p F n hn xs hx0 hl _ pg _ w hw) (fun x L' hx => ?_))
    | (show YU _ _ _ _ _ _ _ _; first | refine YU.store1L tabOk rfl rfl 0 rfl rfl ?_ | refine YU.store1L tabOk rfl rfl 1 rfl rfl ?_ | refine YU.store1L tabOk rfl rfl 2 rfl rfl ?_ | refine YU.store1L tabOk rfl rfl 3 rfl rfl ?_ | refine YU.store1L tabOk rfl rfl 4 rfl rfl ?_ | refine YU.store1L tabOk rfl rfl 5 rfl rfl ?_ | refine YU.store1L tabOk rfl rfl 6 rfl rfl ?_ | refine YU.store1L tabOk rfl rfl 7 rfl rfl ?_ | refine YU.store1L tabOk rfl rfl 8 rfl rfl ?_ | refine YU.store1L tabOk rfl rfl 9 rfl rfl ?_ | refine YU.store1L tabOk rfl rfl 10 rfl rfl ?_ | refine YU.store1L tabOk rfl rfl 11 rfl rfl ?_ | refine YU.store1L tabOk rfl rfl 12 rfl rfl ?_ | refine YU.storeF tabOk rfl rfl rfl 0 rfl rfl ?_ | refine YU.storeF tabOk rfl rfl rfl 1 rfl rfl ?_ | refine YU.storeF tabOk rfl rfl rfl 2 rfl rfl ?_ | refine YU.storeF tabOk rfl rfl rfl 3 rfl rfl ?_ | refine YU.storeF tabOk rfl rfl rfl 4 rfl rfl ?_ | refine YU.storeF tabOk rfl rfl rfl 5 rfl rfl ?_ | refine YU.storeF tabOk rfl rfl rfl 6 rfl rfl ?_ | refine YU.storeF tabOk rfl rfl rfl 7 rfl rfl ?_ | refine YU.storeF tabOk rfl rfl rfl 8 rfl rfl ?_ | refine YU.storeF tabOk rfl rfl rfl 9 rfl rfl ?_ | refine YU.storeF tabOk rfl rfl rfl 10 rfl rfl ?_ | refine YU.storeF tabOk rfl rfl rfl 11 rfl rfl ?_ | refine YU.storeF tabOk rfl rfl rfl 12 rfl rfl ?_ | refine YU.storeAL tabOk rfl rfl rfl 0 rfl rfl ?_ | refine YU.storeAL tabOk rfl rfl rfl 1 rfl rfl ?_ | refine YU.storeAL tabOk rfl rfl rfl 2 rfl rfl ?_ | refine YU.storeAL tabOk rfl rfl rfl 3 rfl rfl ?_ | refine YU.storeAL tabOk rfl rfl rfl 4 rfl rfl ?_ | refine YU.storeAL tabOk rfl rfl rfl 5 rfl rfl ?_ | refine YU.storeAL tabOk rfl rfl rfl 6 rfl rfl ?_ | refine YU.storeAL tabOk rfl rfl rfl 7 rfl rfl ?_ | refine YU.storeAL tabOk rfl rfl rfl 8 rfl rfl ?_ | refine YU.storeAL tabOk rfl rfl rfl 9 rfl rfl ?_ | refine YU.storeAL tabOk rfl rfl rfl 10 rfl rfl ?_ | refine YU.storeAL tabOk rfl rfl rfl 11 rfl rfl ?_ | refine YU.storeAL tabOk rfl rfl rfl 12 rfl rfl ?_)
    | (show Wr _ _ _; first | refine Wr.i64 (by omega) ?_ | refine Wr.u8 (by omega) ?_ | refine Wr.u16 (by omega) ?_ | refine Wr.u32 (by omega) ?_)
    | (show BIf _ _ _; first | refine BIf.pos rfl ?_ | refine BIf.neg rfl ?_)
    | (show Lp _ _ _ _ _; first | refine Lp.rounds 2 ?_)
    | (show Dr _ _ _ _ _ _ _ _ _; first | refine Dr.mk 7 (by kernel_rfl) ?_ | refine Dr.all (by kernel_rfl) ?_)
    | (show Fork _ _; first | refine Fork.mk ?_ ?_)
    | (show Vc.Fin _ _ _; first | refine Fin.take 2 (And.intro ?_ rfl))
    | intro b)
  all_goals first
    | (unfold sgl; (repeat' split) <;> first | rfl | contradiction | (exfalso; omega) | (exfalso; simp_all; done))
end
theorem sgl_f0 {n : Nat} {xs : List Int} {root pg : Int} (h : (sgl n xs root pg).f.k = 0) : (sgl n xs root pg).f = fa0 := by
  unfold sgl at h ⊢
  split
  · rename_i h1; rw [if_pos h1] at h; exact absurd h (by decide)
  · rename_i h1
    rw [if_neg h1] at h
    split
    · rename_i h2; rw [if_pos h2] at h; exact absurd h h2
    · rename_i h2
      rw [if_neg h2] at h
      split
      · rename_i h3; rw [if_pos h3] at h; exact absurd h h3
      · rfl
section
variable (q B n : Nat) (hn : n ≤ 1024) (xs : List Int) (hx0 : By xs) (hl : xs.length = n * 64)
include hn hx0 hl
theorem entry_con (t pg lv : Int) (hlv : lv = 0 ∨ lv = 1) (w : World) (hw : Own w [refE q B n, byE B xs]) : Con Try.prog 118 [.pointer (some ⟨q, 0, none⟩), .int .i64 t, .int .i64 pg, .int .i64 lv] w [refE q B n, byE B xs]
    (fun y L' => y = .tuple #[etA (stpX n xs t pg lv), .int .i64 (stpK n xs t pg lv)] ∧ L' = [refE q B n, byE B xs]) := by
  refine Con.of_vc tabOk 58 [.cell 8 47, .tmp 9] Try.func118 rfl Try.ntmps118 Try.results118 rfl hw ?_
  repeat' ((conv => whnf); first
    | (show _ ∧ _; first | (obtain ⟨rfl, rfl⟩ := hx; refine ⟨rfl, ?_⟩) | (obtain ⟨b, rfl, rfl⟩ := hx; refine ⟨rfl, ?_⟩) | (obtain ⟨b, c, rfl, rfl⟩ := hx; refine ⟨rfl, ?_⟩))
    | (show gsplit _ _ _; first | refine gsplit.tt ?_ | refine gsplit.ff ?_ | refine gsplit.dpos (by omega) ?_ | refine gsplit.dneg (by omega) ?_ | refine gsplit.npos (by omega) ?_ | refine gsplit.nneg (by omega) ?_ | refine gsplit.dec (fun hc => ?_) (fun hc => ?_) | refine gsplit.ndec (fun hc => ?_) (fun hc => ?_) | refine gsplit.eq (fun hc => ?_) (fun hc => ?_) | refine gsplit.neq (fun hc => ?_) (fun hc => ?_) | refine gsplit.mk (fun hb => ?_) (fun hb => ?_))
    | (show YQ _ _ _ _ _ _; first | refine YQ.remN (by omega) ?_ | refine YQ.quoN (by omega) ?_ | refine YQ.len tabOk rfl ?_ | refine YQ.idx tabOk rfl (by omega) ?_ | refine YQ.idxA tabOk rfl (by omega) ?_ | refine YQ.sliceA tabOk rfl (by omega) (by omega) ?_ | refine YQ.sliceAll tabOk rfl ?_ | refine YQ.load1 tabOk rfl 0 rfl rfl ?_ | refine YQ.load1 tabOk rfl 1 rfl rfl ?_ | refine YQ.load1 tabOk rfl 2 rfl rfl ?_ | refine YQ.load1 tabOk rfl 3 rfl rfl ?_ | refine YQ.load1 tabOk rfl 4 rfl rfl ?_ | refine YQ.load1 tabOk rfl 5 rfl rfl ?_ | refine YQ.load1 tabOk rfl 6 rfl rfl ?_ | refine YQ.load1 tabOk rfl 7 rfl rfl ?_ | refine YQ.load1 tabOk rfl 8 rfl rfl ?_ | refine YQ.load1 tabOk rfl 9 rfl rfl ?_ | refine YQ.load1 tabOk rfl 10 rfl rfl ?_ | refine YQ.load1 tabOk rfl 11 rfl rfl ?_ | refine YQ.load1 tabOk rfl 12 rfl rfl ?_ | refine YQ.loadF tabOk rfl 0 rfl rfl ?_ | refine YQ.loadF tabOk rfl 1 rfl rfl ?_ | refine YQ.loadF tabOk rfl 2 rfl rfl ?_ | refine YQ.loadF tabOk rfl 3 rfl rfl ?_ | refine YQ.loadF tabOk rfl 4 rfl rfl ?_ | refine YQ.loadF tabOk rfl 5 rfl rfl ?_ | refine YQ.loadF tabOk rfl 6 rfl rfl ?_ | refine YQ.loadF tabOk rfl 7 rfl rfl ?_ | refine YQ.loadF tabOk rfl 8 rfl rfl ?_ | refine YQ.loadF tabOk rfl 9 rfl rfl ?_ | refine YQ.loadF tabOk rfl 10 rfl rfl ?_ | refine YQ.loadF tabOk rfl 11 rfl rfl ?_ | refine YQ.loadF tabOk rfl 12 rfl rfl ?_ | refine YQ.loadA tabOk rfl 0 rfl rfl rfl ?_ | refine YQ.loadA tabOk rfl 1 rfl rfl rfl ?_ | refine YQ.loadA tabOk rfl 2 rfl rfl rfl ?_ | refine YQ.loadA tabOk rfl 3 rfl rfl rfl ?_ | refine YQ.loadA tabOk rfl 4 rfl rfl rfl ?_ | refine YQ.loadA tabOk rfl 5 rfl rfl rfl ?_ | refine YQ.loadA tabOk rfl 6 rfl rfl rfl ?_ | refine YQ.loadA tabOk rfl 7 rfl rfl rfl ?_ | refine YQ.loadA tabOk rfl 8 rfl rfl rfl ?_ | refine YQ.loadA tabOk rfl 9 rfl rfl rfl ?_ | refine YQ.loadA tabOk rfl 10 rfl rfl rfl ?_ | refine YQ.loadA tabOk rfl 11 rfl rfl rfl ?_ | refine YQ.loadA tabOk rfl 12 rfl rfl rfl ?_ | refine YQ.build tabOk rfl rfl rfl ?_ | refine YQ.eqF tabOk rfl rfl rfl ?_ | refine YQ.neF tabOk rfl rfl rfl ?_)
    | (show YC _ _ _ _ _ _ _; first | refine YC.conR [0] _ rfl rfl (fun w hw0 hw => rframes_con q B n hn w hw) (fun x L' hx => ?_) | refine YC.conR [] [] rfl rfl (fun w _ _ => index_ref pg lv w) (fun x L' hx => ?_) | refine YC.conR [0, 1] _ rfl rfl (fun w hw0 hw => rget_con q B n hn xs hx0 hl t (indexI pg lv) w hw) (fun x L' hx => ?_))
    | (show YU _ _ _ _ _ _ _ _; first | refine YU.store1L tabOk rfl rfl 0 rfl rfl ?_ | refine YU.store1L tabOk rfl rfl 1 rfl rfl ?_ | refine YU.store1L tabOk rfl rfl 2 rfl rfl ?_ | refine YU.store1L tabOk rfl rfl 3 rfl rfl ?_ | refine YU.store1L tabOk rfl rfl 4 rfl rfl ?_ | refine YU.store1L tabOk rfl rfl 5 rfl rfl ?_ | refine YU.store1L tabOk rfl rfl 6 rfl rfl ?_ | refine YU.store1L tabOk rfl rfl 7 rfl rfl ?_ | refine YU.store1L tabOk rfl rfl 8 rfl rfl ?_ | refine YU.store1L tabOk rfl rfl 9 rfl rfl ?_ | refine YU.store1L tabOk rfl rfl 10 rfl rfl ?_ | refine YU.store1L tabOk rfl rfl 11 rfl rfl ?_ | refine YU.store1L tabOk rfl rfl 12 rfl rfl ?_ | refine YU.storeF tabOk rfl rfl rfl 0 rfl rfl ?_ | refine YU.storeF tabOk rfl rfl rfl 1 rfl rfl ?_ | refine YU.storeF tabOk rfl rfl rfl 2 rfl rfl ?_ | refine YU.storeF tabOk rfl rfl rfl 3 rfl rfl ?_ | refine YU.storeF tabOk rfl rfl rfl 4 rfl rfl ?_ | refine YU.storeF tabOk rfl rfl rfl 5 rfl rfl ?_ | refine YU.storeF tabOk rfl rfl rfl 6 rfl rfl ?_ | refine YU.storeF tabOk rfl rfl rfl 7 rfl rfl ?_ | refine YU.storeF tabOk rfl rfl rfl 8 rfl rfl ?_ | refine YU.storeF tabOk rfl rfl rfl 9 rfl rfl ?_ | refine YU.storeF tabOk rfl rfl rfl 10 rfl rfl ?_ | refine YU.storeF tabOk rfl rfl rfl 11 rfl rfl ?_ | refine YU.storeF tabOk rfl rfl rfl 12 rfl rfl ?_ | refine YU.storeAL tabOk rfl rfl rfl 0 rfl rfl ?_ | refine YU.storeAL tabOk rfl rfl rfl 1 rfl rfl ?_ | refine YU.storeAL tabOk rfl rfl rfl 2 rfl rfl ?_ | refine YU.storeAL tabOk rfl rfl rfl 3 rfl rfl ?_ | refine YU.storeAL tabOk rfl rfl rfl 4 rfl rfl ?_ | refine YU.storeAL tabOk rfl rfl rfl 5 rfl rfl ?_ | refine YU.storeAL tabOk rfl rfl rfl 6 rfl rfl ?_ | refine YU.storeAL tabOk rfl rfl rfl 7 rfl rfl ?_ | refine YU.storeAL tabOk rfl rfl rfl 8 rfl rfl ?_ | refine YU.storeAL tabOk rfl rfl rfl 9 rfl rfl ?_ | refine YU.storeAL tabOk rfl rfl rfl 10 rfl rfl ?_ | refine YU.storeAL tabOk rfl rfl rfl 11 rfl rfl ?_ | refine YU.storeAL tabOk rfl rfl rfl 12 rfl rfl ?_)
    | (show Wr _ _ _; first | refine Wr.i64 (by omega) ?_ | refine Wr.u8 (by omega) ?_ | refine Wr.u16 (by omega) ?_ | refine Wr.u32 (by omega) ?_)
    | (show BIf _ _ _; first | refine BIf.pos rfl ?_ | refine BIf.neg rfl ?_)
    | (show Dr _ _ _ _ _ _ _ _ _; first | refine Dr.all (by kernel_rfl) ?_)
    | (show Fork _ _; first | refine Fork.mk ?_ ?_)
    | (show Vc.Fin _ _ _; first | refine Fin.take 2 (And.intro ?_ rfl))
    | intro b)
  all_goals first
    | (have hk : stpK n xs t pg lv = 3 := if_pos (by omega)
       rw [show stpX n xs t pg lv = et0 from if_neg (by omega), hk]; rfl)
    | (have hk : stpK n xs t pg lv = 1 := (by unfold stpK; rw [if_neg (by omega)]; simp_all)
       rw [show stpX n xs t pg lv = et0 from if_neg (by omega), hk]; rfl)
    | (have hk : stpK n xs t pg lv = 0 := (by unfold stpK; rw [if_neg (by omega)]; simp_all)
       rw [show stpX n xs t pg lv = getX n xs t (indexI pg lv) from if_pos hk, hk]; rfl)
    | (exfalso; omega)
theorem rsingle_con (root pg : Int) (w : World) (hw : Own w [refE q B n, byE B xs]) : Con Try.prog 112 [.pointer (some ⟨q, 0, none⟩), .int .i64 root, .int .i64 pg] w [refE q B n, byE B xs]
    (fun y L' => y = r3V (sgl n xs root pg) ∧ L' = [refE q B n, byE B xs]) := by
  refine Con.of_vc tabOk 50 [.tmp 6, .tmp 7, .cell 8 56] Try.func112 rfl Try.ntmps112 Try.results112 rfl hw ?_
  repeat' ((conv => whnf); first
    | (show _ ∧ _; first | (obtain ⟨rfl, rfl⟩ := hx; refine ⟨rfl, ?_⟩) | (obtain ⟨b, rfl, rfl⟩ := hx; refine ⟨rfl, ?_⟩) | (obtain ⟨b, c, rfl, rfl⟩ := hx; refine ⟨rfl, ?_⟩))
    | (show gsplit _ _ _; first | refine gsplit.tt ?_ | refine gsplit.ff ?_ | refine gsplit.dpos (by omega) ?_ | refine gsplit.dneg (by omega) ?_ | refine gsplit.npos (by omega) ?_ | refine gsplit.nneg (by omega) ?_ | refine gsplit.dec (fun hc => ?_) (fun hc => ?_) | refine gsplit.ndec (fun hc => ?_) (fun hc => ?_) | refine gsplit.eq (fun hc => ?_) (fun hc => ?_) | refine gsplit.neq (fun hc => ?_) (fun hc => ?_) | refine gsplit.mk (fun hb => ?_) (fun hb => ?_))
    | (show YQ _ _ _ _ _ _; first | refine YQ.remN (by omega) ?_ | refine YQ.quoN (by omega) ?_ | refine YQ.len tabOk rfl ?_ | refine YQ.idx tabOk rfl (by omega) ?_ | refine YQ.idxA tabOk rfl (by omega) ?_ | refine YQ.sliceA tabOk rfl (by omega) (by omega) ?_ | refine YQ.sliceAll tabOk rfl ?_ | refine YQ.load1 tabOk rfl 0 rfl rfl ?_ | refine YQ.load1 tabOk rfl 1 rfl rfl ?_ | refine YQ.load1 tabOk rfl 2 rfl rfl ?_ | refine YQ.load1 tabOk rfl 3 rfl rfl ?_ | refine YQ.load1 tabOk rfl 4 rfl rfl ?_ | refine YQ.load1 tabOk rfl 5 rfl rfl ?_ | refine YQ.load1 tabOk rfl 6 rfl rfl ?_ | refine YQ.load1 tabOk rfl 7 rfl rfl ?_ | refine YQ.load1 tabOk rfl 8 rfl rfl ?_ | refine YQ.load1 tabOk rfl 9 rfl rfl ?_ | refine YQ.load1 tabOk rfl 10 rfl rfl ?_ | refine YQ.load1 tabOk rfl 11 rfl rfl ?_ | refine YQ.load1 tabOk rfl 12 rfl rfl ?_ | refine YQ.loadF tabOk rfl 0 rfl rfl ?_ | refine YQ.loadF tabOk rfl 1 rfl rfl ?_ | refine YQ.loadF tabOk rfl 2 rfl rfl ?_ | refine YQ.loadF tabOk rfl 3 rfl rfl ?_ | refine YQ.loadF tabOk rfl 4 rfl rfl ?_ | refine YQ.loadF tabOk rfl 5 rfl rfl ?_ | refine YQ.loadF tabOk rfl 6 rfl rfl ?_ | refine YQ.loadF tabOk rfl 7 rfl rfl ?_ | refine YQ.loadF tabOk rfl 8 rfl rfl ?_ | refine YQ.loadF tabOk rfl 9 rfl rfl ?_ | refine YQ.loadF tabOk rfl 10 rfl rfl ?_ | refine YQ.loadF tabOk rfl 11 rfl rfl ?_ | refine YQ.loadF tabOk rfl 12 rfl rfl ?_ | refine YQ.loadA tabOk rfl 0 rfl rfl rfl ?_ | refine YQ.loadA tabOk rfl 1 rfl rfl rfl ?_ | refine YQ.loadA tabOk rfl 2 rfl rfl rfl ?_ | refine YQ.loadA tabOk rfl 3 rfl rfl rfl ?_ | refine YQ.loadA tabOk rfl 4 rfl rfl rfl ?_ | refine YQ.loadA tabOk rfl 5 rfl rfl rfl ?_ | refine YQ.loadA tabOk rfl 6 rfl rfl rfl ?_ | refine YQ.loadA tabOk rfl 7 rfl rfl rfl ?_ | refine YQ.loadA tabOk rfl 8 rfl rfl rfl ?_ | refine YQ.loadA tabOk rfl 9 rfl rfl rfl ?_ | refine YQ.loadA tabOk rfl 10 rfl rfl rfl ?_ | refine YQ.loadA tabOk rfl 11 rfl rfl rfl ?_ | refine YQ.loadA tabOk rfl 12 rfl rfl rfl ?_ | refine YQ.build tabOk rfl rfl rfl ?_ | refine YQ.eqF tabOk rfl rfl rfl ?_ | refine YQ.neF tabOk rfl rfl rfl ?_)
    | (show YC _ _ _ _ _ _ _; first | refine YC.conR [0, 1] _ rfl rfl (fun w hw0 hw => entry_con q B n hn xs hx0 hl root pg 0 (.inl rfl) w hw) (fun x L' hx => ?_) | refine YC.conR [0, 1] _ rfl rfl (fun w hw0 hw => entry_con q B n hn xs hx0 hl _ pg 1 (.inr rfl) w hw) (fun x L' hx => ?_))
    | (show YU _ _ _ _ _ _ _ _; first | refine YU.store1L tabOk rfl rfl 0 rfl rfl ?_ | refine YU.store1L tabOk rfl rfl 1 rfl rfl ?_ | refine YU.store1L tabOk rfl rfl 2 rfl rfl ?_ | refine YU.store1L tabOk rfl rfl 3 rfl rfl ?_ | refine YU.store1L tabOk rfl rfl 4 rfl rfl ?_ | refine YU.store1L tabOk rfl rfl 5 rfl rfl ?_ | refine YU.store1L tabOk rfl rfl 6 rfl rfl ?_ | refine YU.store1L tabOk rfl rfl 7 rfl rfl ?_ | refine YU.store1L tabOk rfl rfl 8 rfl rfl ?_ | refine YU.store1L tabOk rfl rfl 9 rfl rfl ?_ | refine YU.store1L tabOk rfl rfl 10 rfl rfl ?_ | refine YU.store1L tabOk rfl rfl 11 rfl rfl ?_ | refine YU.store1L tabOk rfl rfl 12 rfl rfl ?_ | refine YU.storeF tabOk rfl rfl rfl 0 rfl rfl ?_ | refine YU.storeF tabOk rfl rfl rfl 1 rfl rfl ?_ | refine YU.storeF tabOk rfl rfl rfl 2 rfl rfl ?_ | refine YU.storeF tabOk rfl rfl rfl 3 rfl rfl ?_ | refine YU.storeF tabOk rfl rfl rfl 4 rfl rfl ?_ | refine YU.storeF tabOk rfl rfl rfl 5 rfl rfl ?_ | refine YU.storeF tabOk rfl rfl rfl 6 rfl rfl ?_ | refine YU.storeF tabOk rfl rfl rfl 7 rfl rfl ?_ | refine YU.storeF tabOk rfl rfl rfl 8 rfl rfl ?_ | refine YU.storeF tabOk rfl rfl rfl 9 rfl rfl ?_ | refine YU.storeF tabOk rfl rfl rfl 10 rfl rfl ?_ | refine YU.storeF tabOk rfl rfl rfl 11 rfl rfl ?_ | refine YU.storeF tabOk rfl rfl rfl 12 rfl rfl ?_ | refine YU.storeAL tabOk rfl rfl rfl 0 rfl rfl ?_ | refine YU.storeAL tabOk rfl rfl rfl 1 rfl rfl ?_ | refine YU.storeAL tabOk rfl rfl rfl 2 rfl rfl ?_ | refine YU.storeAL tabOk rfl rfl rfl 3 rfl rfl ?_ | refine YU.storeAL tabOk rfl rfl rfl 4 rfl rfl ?_ | refine YU.storeAL tabOk rfl rfl rfl 5 rfl rfl ?_ | refine YU.storeAL tabOk rfl rfl rfl 6 rfl rfl ?_ | refine YU.storeAL tabOk rfl rfl rfl 7 rfl rfl ?_ | refine YU.storeAL tabOk rfl rfl rfl 8 rfl rfl ?_ | refine YU.storeAL tabOk rfl rfl rfl 9 rfl rfl ?_ | refine YU.storeAL tabOk rfl rfl rfl 10 rfl rfl ?_ | refine YU.storeAL tabOk rfl rfl rfl 11 rfl rfl ?_ | refine YU.storeAL tabOk rfl rfl rfl 12 rfl rfl ?_)
    | (show Wr _ _ _; first | refine Wr.i64 (by omega) ?_ | refine Wr.u8 (by omega) ?_ | refine Wr.u16 (by omega) ?_ | refine Wr.u32 (by omega) ?_)
    | (show BIf _ _ _; first | refine BIf.pos rfl ?_ | refine BIf.neg rfl ?_)
    | (show Dr _ _ _ _ _ _ _ _ _; first | (show Dr _ _ _ _ _ (Array.toList #[_, _, _, _]) _ _ _; refine Dr.mk 3 (by kernel_rfl) ?_) | (show Dr _ _ _ _ _ (Array.toList #[_, _, _, _, _, _]) _ _ _; refine Dr.mk 5 (by kernel_rfl) ?_) | (show Dr _ _ _ _ _ (Array.toList #[_, _, _, _, _, _, _, _]) _ _ _; refine Dr.mk 7 (by kernel_rfl) ?_) | (show Dr _ _ _ _ _ (Array.toList #[_, _, _, _, _, _, _, _, _]) _ _ _; refine Dr.mk 8 (by kernel_rfl) ?_) | refine Dr.all (by kernel_rfl) ?_)
    | (show Fork _ _; first | refine Fork.mk ?_ ?_)
    | (show Vc.Fin _ _ _; first | refine Fin.take 2 (And.intro ?_ rfl))
    | intro b)
  all_goals first
    | (unfold sgl; (repeat' split) <;> first | rfl | contradiction | (exfalso; omega) | (exfalso; simp_all; done))
end
end Go.Proofs.Ytggbhokhibfdmaa
