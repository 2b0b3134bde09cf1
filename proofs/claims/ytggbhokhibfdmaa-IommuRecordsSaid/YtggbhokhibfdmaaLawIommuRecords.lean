/- 'viceroylaw10.IommuRecords' answers true at every input. Conditions: none beside the row's own. -/
import Derived.Test.YtggbhokhibfdmaaIomW
set_option linter.unusedVariables false
set_option linter.unusedSimpArgs false
set_option linter.unusedSectionVars false
set_option maxRecDepth 10000
set_option maxHeartbeats 16000000
namespace Go.Proofs.Ytggbhokhibfdmaa
open Vc Mem
/-- Where it stands: what is recorded, and what should be. -/
structure Rl where
  i : Nat
  rc : Rc
  hv : Rc
  lost : Int
def hd (l : List Rd4) : Rd4 := l.headD ⟨0, 0, 0, false⟩
theorem hd_at {l : List Rd4} (h : 0 < l.length) : l[0]? = some (hd l) := by
  cases l with
  | nil => simp at h
  | cons x r => rfl
theorem tkY_hd {l : List Rd4} (h : 0 < l.length) : tkY l = .tuple #[rdA (hd l), .bool true] := by
  cases l with
  | nil => simp at h
  | cons x r => rfl
theorem resl_rc (bb : Nat) (pre : List Value) (ls : List Rd4) (sl : List Value) (cap : Nat) (hok : rcOk (.at_ bb pre ls sl cap)) (h : 0 < ls.length) : ∃ rc', (rcOk rc' ∧ rcL rc' = ls.tail) ∧ rcE rc' = ⟨bb, recT, pre ++ (rows rdV ls ++ sl)⟩ ∧
    rcV rc' = .slice (some ⟨bb, if cap = Int.toNat 1 then pre.length else pre.length + Int.toNat 1 * 4, none⟩) (ls.length - Int.toNat 1) (cap - Int.toNat 1) := by
  cases ls with
  | nil => simp at h
  | cons x r =>
    have hok' : (x :: r).length ≤ cap ∧ cap * 4 ≤ (x :: r).length * 4 + sl.length := hok
    have hlen : (x :: r).length = r.length + 1 := rfl
    by_cases hcap : cap = 1
    · subst hcap
      have hr : r = [] := List.eq_nil_of_length_eq_zero (by omega)
      subst hr
      exact ⟨.at_ bb pre [] (rdV x ++ sl) 0, ⟨⟨by simp, by simp⟩, rfl⟩, rfl, rfl⟩
    · refine ⟨.at_ bb (pre ++ rdV x) r sl (cap - 1), ⟨⟨by omega, by omega⟩, rfl⟩, ?_, ?_⟩
      · show (⟨bb, recT, (pre ++ rdV x) ++ (rows rdV r ++ sl)⟩ : Ent) = _
        congr 1
        simp [rows]
      · show Value.slice (some ⟨bb, (pre ++ rdV x).length, none⟩) r.length (cap - 1) = _
        rw [if_neg (show ¬ cap = Int.toNat 1 from hcap), List.length_append]
        rfl
theorem YQ.remA {P : Program} {w0 : World} {I : List Nat} {L : Hs} {t : TypeId} {x y : Operand} {kd : IntKind} {a : Int} {K : Value → Prop} (k : ∀ m : Int, -1023 ≤ m ∧ m ≤ 1023 → K (.int kd m)) : YQ P w0 I L (.bin .rem t x y (.int kd a) (.int kd 1024)) K := by
  refine YQ.rem (by decide) (k _ ?_)
  have h1 := Int.tmod_lt_of_pos a (show (0 : Int) < 1024 by decide)
  have h2 := Int.lt_tmod_of_pos a (show (0 : Int) < 1024 by decide)
  omega
theorem YQ.negA {P : Program} {w0 : World} {I : List Nat} {L : Hs} {x : Int} {K : Value → Prop} (h : 0 ≤ -x ∧ -x ≤ 1023) (k : ∀ y : Int, 0 ≤ y ∧ y ≤ 1023 → K (.int .i64 y)) : YQ P w0 I L (.un .neg (.int .i64 x)) K := by
  refine YQ.val (.int .i64 (-x)) (fun w => ?_) (k (-x) h)
  have e : IntKind.i64.wrap (-x) = -x := IntWalk.i64_in (-x) (by omega)
  have e0 : (0 : Int) - x = -x := by omega
  simp [Rq.sem, Op.unary, Op.intArith, Sem.run, e0, e]
theorem Wr.abs {x : Int} {K : Value → Prop} (h : 0 ≤ x ∧ x ≤ 1023) (k : ∀ y : Int, 0 ≤ y ∧ y ≤ 1023 → K (.int .i64 y)) : Wr .i64 x K := Wr.i64 (by omega) (k x h)
theorem dma_split {P : Program} {w0 : World} {I : List Nat} {L : Hs} {f : FuncId} {a1 a2 a3 a5 a6 : Value} {ad : Int} {K : Value → Hs → Prop} (h1 : ad ≤ 65535 → YC P w0 I L f [a1, a2, a3, .int .i64 ad, a5, a6] K) (h2 : ¬ ad ≤ 65535 → YC P w0 I L f [a1, a2, a3, .int .i64 ad, a5, a6] K) : YC P w0 I L f [a1, a2, a3, .int .i64 ad, a5, a6] K := by
  rcases Classical.em (ad ≤ 65535) with h | h
  · exact h1 h
  · exact h2 h
theorem dmaN (p mr mb p' F : Nat) (X : List Int) (hx0 : By X) (hl : X.length = 16 * 64) (st ad : Int) (hst : isS st) (had : 0 ≤ ad ∧ ad ≤ 65535) (wr : Bool) (b : Int) (rc : Rc) (hok : rcOk rc) (h8 : (rcL rc).length ≤ 8) (lost : Int) (w : World) (hw : Own w [iomE p mr mb (rcV rc) lost, maR mr 0 [], maB mb 0 [], ramE p' F 16, frE F X, rcE rc]) :
    Con Try.prog 15 [.pointer (some ⟨p, 0, none⟩), .pointer (some ⟨p', 0, none⟩), .int .i64 st, .int .i64 ad, .bool wr, .int .u8 b] w [iomE p mr mb (rcV rc) lost, maR mr 0 [], maB mb 0 [], ramE p' F 16, frE F X, rcE rc]
      (fun y L' => ∃ rc', (rcOk rc' ∧ rcL rc' = recL ⟨st, ad / 64, 1, wr⟩ (rcL rc)) ∧ y = .tuple #[.int .u8 0, .int .i64 101] ∧ L' = [iomE p mr mb (rcV rc') (recN (rcL rc) lost), maR mr 0 [], maB mb 0 [], ramE p' F 16, frE F X, rcE rc']) :=
  dma_fault p mr mb rc lost 0 0 [] [] p' F X hx0 hl st ad hst had wr b ⟨0, 1, none⟩ rfl hok h8 (by decide) w hw
def pgV (x : Int) : List Value := [.int .i64 x]
def bkV (x : Bool) : List Value := [.bool x]
theorem iommuRecords_con (X : List Int) (hl : X.length = 16 * 64) (hBX : By X) (hX : mkX [] = X) (a : Option Addr) (len cap : Nat) (w : World) (pages : List Int) (hlen : pages.length = len) (ha : Arr w 1 pgV a pages) (a1 : Option Addr) (len1 cap1 : Nat) (takes : List Bool) (hlen1 : takes.length = len1) (ha1 : Arr w 1 bkV a1 takes) :
    Con Try.prog 3 [.slice a len cap, .slice a1 len1 cap1] w [] (fun y L' => y = .bool true ∧ L' = []) := by
  refine Con.of_vc tabOk 161 [.tmp 4] Try.func3 rfl Try.ntmps3 Try.results3 rfl (Own.nil' w) ?_
  repeat' ((conv => whnf); first
    | (show _ ∧ _; first | (simp only [hX] at hx) | (simp only [hE, hN, hM] at hx) | (rw [c.2, tkY_hd (by first | (simp; done) | omega)] at hx) | (obtain ⟨rfl, rfl⟩ := hx; refine ⟨rfl, ?_⟩) | (obtain ⟨b, rfl, rfl⟩ := hx; refine ⟨rfl, ?_⟩) | (obtain ⟨b, c, rfl, rfl⟩ := hx; refine ⟨rfl, ?_⟩) | (obtain ⟨d1, d2, d3, d4, rfl, rfl⟩ := hx; refine ⟨rfl, ?_⟩) | (obtain ⟨c1, p', F, p, mr, mb, q, B2, j, rfl, rfl⟩ := hx; refine ⟨rfl, ?_⟩) | (obtain ⟨rfl, rfl⟩ := hx; refine ⟨rfl, ?_⟩) | (obtain ⟨b, rfl, rfl⟩ := hx; refine ⟨rfl, ?_⟩) | (obtain ⟨b, c, rfl, rfl⟩ := hx; refine ⟨rfl, ?_⟩))
    | (show gsplit _ _ _; first | refine gsplit.neg (neB_rd _) ?_ | refine gsplit.tt ?_ | refine gsplit.ff ?_ | refine gsplit.dpos (by omega) ?_ | refine gsplit.dneg (by omega) ?_ | refine gsplit.npos (by omega) ?_ | refine gsplit.nneg (by omega) ?_ | refine gsplit.dec (fun hc => ?_) (fun hc => ?_) | refine gsplit.ndec (fun hc => ?_) (fun hc => ?_) | refine gsplit.eq (fun hc => ?_) (fun hc => ?_) | refine gsplit.neq (fun hc => ?_) (fun hc => ?_) | refine gsplit.mk (fun hb => ?_) (fun hb => ?_))
    | (show YQ _ _ _ _ _ _; first | refine qeqp Try.underlying25 ?_ | refine YQ.remA (fun pg hpg => ?_) | refine YQ.negA (by omega) (fun pg hpg => ?_) | refine YQ.idxN tabOk rfl ha (fun _ => rfl) (by omega) i (List.getElem?_eq_getElem (by omega)) (by omega) (fun ab ao hd => ?_) | refine YQ.idxN tabOk rfl ha1 (fun _ => rfl) (by omega) i (List.getElem?_eq_getElem (by omega)) (by omega) (fun ab ao hd => ?_) | refine YQ.loadN1 tabOk hd rfl 0 rfl rfl ?_ | refine YQ.loadRowP tabOk rfl 7 0 rfl rdV_len (hd_at (by first | (simp; done) | omega)) (by omega) ?_ | refine YQ.reslL slRd (by simp; try omega) hfl.1 ?_ | refine YQ.reslL slRd (by omega) (show ls.length ≤ cap9 ∧ _ from hhv).1 ?_ | refine YQ.loadRow tabOk rfl 8 k rfl rdV_len (List.getElem?_eq_getElem (by omega)) (by omega) ?_ | refine YQ.loadRowP tabOk rfl 7 k rfl rdV_len (List.getElem?_eq_getElem (by omega)) (by omega) ?_ | refine YQ.remN (by omega) ?_ | refine YQ.quoN (by omega) ?_ | refine YQ.len tabOk rfl ?_ | refine YQ.idx tabOk rfl (by omega) ?_ | refine YQ.idxA tabOk rfl (by omega) ?_ | refine YQ.sliceA tabOk rfl (by omega) (by omega) ?_ | refine YQ.sliceAll tabOk rfl ?_ | refine YQ.load1 tabOk rfl 0 rfl rfl ?_ | refine YQ.load1 tabOk rfl 1 rfl rfl ?_ | refine YQ.load1 tabOk rfl 2 rfl rfl ?_ | refine YQ.load1 tabOk rfl 3 rfl rfl ?_ | refine YQ.load1 tabOk rfl 4 rfl rfl ?_ | refine YQ.load1 tabOk rfl 5 rfl rfl ?_ | refine YQ.load1 tabOk rfl 6 rfl rfl ?_ | refine YQ.load1 tabOk rfl 7 rfl rfl ?_ | refine YQ.load1 tabOk rfl 8 rfl rfl ?_ | refine YQ.load1 tabOk rfl 9 rfl rfl ?_ | refine YQ.load1 tabOk rfl 10 rfl rfl ?_ | refine YQ.load1 tabOk rfl 11 rfl rfl ?_ | refine YQ.load1 tabOk rfl 12 rfl rfl ?_ | refine YQ.loadF tabOk rfl 0 rfl rfl ?_ | refine YQ.loadF tabOk rfl 1 rfl rfl ?_ | refine YQ.loadF tabOk rfl 2 rfl rfl ?_ | refine YQ.loadF tabOk rfl 3 rfl rfl ?_ | refine YQ.loadF tabOk rfl 4 rfl rfl ?_ | refine YQ.loadF tabOk rfl 5 rfl rfl ?_ | refine YQ.loadF tabOk rfl 6 rfl rfl ?_ | refine YQ.loadF tabOk rfl 7 rfl rfl ?_ | refine YQ.loadF tabOk rfl 8 rfl rfl ?_ | refine YQ.loadF tabOk rfl 9 rfl rfl ?_ | refine YQ.loadF tabOk rfl 10 rfl rfl ?_ | refine YQ.loadF tabOk rfl 11 rfl rfl ?_ | refine YQ.loadF tabOk rfl 12 rfl rfl ?_ | refine YQ.loadA tabOk rfl 0 rfl rfl rfl ?_ | refine YQ.loadA tabOk rfl 1 rfl rfl rfl ?_ | refine YQ.loadA tabOk rfl 2 rfl rfl rfl ?_ | refine YQ.loadA tabOk rfl 3 rfl rfl rfl ?_ | refine YQ.loadA tabOk rfl 4 rfl rfl rfl ?_ | refine YQ.loadA tabOk rfl 5 rfl rfl rfl ?_ | refine YQ.loadA tabOk rfl 6 rfl rfl rfl ?_ | refine YQ.loadA tabOk rfl 7 rfl rfl rfl ?_ | refine YQ.loadA tabOk rfl 8 rfl rfl rfl ?_ | refine YQ.loadA tabOk rfl 9 rfl rfl rfl ?_ | refine YQ.loadA tabOk rfl 10 rfl rfl rfl ?_ | refine YQ.loadA tabOk rfl 11 rfl rfl rfl ?_ | refine YQ.loadA tabOk rfl 12 rfl rfl rfl ?_ | refine YQ.build tabOk rfl rfl rfl ?_ | refine YQ.eqF tabOk rfl rfl rfl ?_ | refine YQ.neF tabOk rfl rfl rfl ?_)
    | (show YC _ _ _ _ _ _ _; first | refine YC.conR [] [] rfl rfl (fun w _ _ => awake10_con w) (fun x L' hx => ?_) | refine YC.conR [] [] rfl rfl (fun w hw0 _ => made10_con none 0 0 w [] rfl (fun j x hj => by simp at hj)) (fun x L' hx => ?_) | refine YC.conR [3, 4, 5, 1, 2, 6] _ rfl rfl (fun w hw0 hw => dmaN p mr mb p' F X hBX hl _ _ (by omega) (by omega) _ 1 rc hrc h8 lost w hw) (fun x L' hx => ?_) | refine YC.conR [] [] rfl rfl (fun w _ _ => dma_b2 p p' _ _ _ 1 (by omega) (by omega) w) (fun x L' hx => ?_) | refine YC.conR [3, 6] _ rfl rfl (fun w hw0 hw => take_con p mr mb _ c.1 _ w hw) (fun x L' hx => ?_) | (refine YC.conR [3, 6, 8] _ rfl rfl (fun w hw0 hw => records_con p mr mb rc h8 lost d3 w hw) (fun x L' hx => ?_); obtain ⟨rz', ⟨g1, g2⟩, rfl, rfl⟩ := hx; refine ⟨rfl, ?_⟩; rcases rz' with d' | ⟨b1, l1, sl1, cap1⟩ <;> (have g3 := g2.trans hE; dsimp only [rzL] at g3; try subst g3)) | refine YC.conR [3] _ rfl rfl (fun w hw0 hw => lost_con p mr mb (rcV rc) lost w hw) (fun x L' hx => ?_))
    | (show YW _ _ _ _ _ _; first | refine YW.lit slRd rfl (by omega) (fun bz => ?_) | refine YW.appR0 slRd rdV_len (Rd4.mk ((i : Int) % 16) ((64 * pg + i) / 64) 1 (decide ((i : Int) % 3 = 0))) (by omega) (Rdy.row Try.underlying27 rdV_len rdV_one (Rd4.mk ((i : Int) % 16) ((64 * pg + i) / 64) 1 (decide ((i : Int) % 3 = 0))) 10 rfl) (fun b' cap' sl' hfl => ?_) | refine YW.appRc (Rd4.mk ((i : Int) % 16) ((64 * pg + i) / 64) 1 (decide ((i : Int) % 3 = 0))) hhv (by omega) 7 rfl (Rdy.row Try.underlying27 rdV_len rdV_one (Rd4.mk ((i : Int) % 16) ((64 * pg + i) / 64) 1 (decide ((i : Int) % 3 = 0))) 10 rfl) (fun b' pre' cap' sl' hfl => ?_))
    | (show YU _ _ _ _ _ _ _ _; first | refine YU.store1L tabOk rfl rfl 0 rfl rfl ?_ | refine YU.store1L tabOk rfl rfl 1 rfl rfl ?_ | refine YU.store1L tabOk rfl rfl 2 rfl rfl ?_ | refine YU.store1L tabOk rfl rfl 3 rfl rfl ?_ | refine YU.store1L tabOk rfl rfl 4 rfl rfl ?_ | refine YU.store1L tabOk rfl rfl 5 rfl rfl ?_ | refine YU.store1L tabOk rfl rfl 6 rfl rfl ?_ | refine YU.store1L tabOk rfl rfl 7 rfl rfl ?_ | refine YU.store1L tabOk rfl rfl 8 rfl rfl ?_ | refine YU.store1L tabOk rfl rfl 9 rfl rfl ?_ | refine YU.store1L tabOk rfl rfl 10 rfl rfl ?_ | refine YU.store1L tabOk rfl rfl 11 rfl rfl ?_ | refine YU.store1L tabOk rfl rfl 12 rfl rfl ?_ | refine YU.storeF tabOk rfl rfl rfl 0 rfl rfl ?_ | refine YU.storeF tabOk rfl rfl rfl 1 rfl rfl ?_ | refine YU.storeF tabOk rfl rfl rfl 2 rfl rfl ?_ | refine YU.storeF tabOk rfl rfl rfl 3 rfl rfl ?_ | refine YU.storeF tabOk rfl rfl rfl 4 rfl rfl ?_ | refine YU.storeF tabOk rfl rfl rfl 5 rfl rfl ?_ | refine YU.storeF tabOk rfl rfl rfl 6 rfl rfl ?_ | refine YU.storeF tabOk rfl rfl rfl 7 rfl rfl ?_ | refine YU.storeF tabOk rfl rfl rfl 8 rfl rfl ?_ | refine YU.storeF tabOk rfl rfl rfl 9 rfl rfl ?_ | refine YU.storeF tabOk rfl rfl rfl 10 rfl rfl ?_ | refine YU.storeF tabOk rfl rfl rfl 11 rfl rfl ?_ | refine YU.storeF tabOk rfl rfl rfl 12 rfl rfl ?_ | refine YU.storeAL tabOk rfl rfl rfl 0 rfl rfl ?_ | refine YU.storeAL tabOk rfl rfl rfl 1 rfl rfl ?_ | refine YU.storeAL tabOk rfl rfl rfl 2 rfl rfl ?_ | refine YU.storeAL tabOk rfl rfl rfl 3 rfl rfl ?_ | refine YU.storeAL tabOk rfl rfl rfl 4 rfl rfl ?_ | refine YU.storeAL tabOk rfl rfl rfl 5 rfl rfl ?_ | refine YU.storeAL tabOk rfl rfl rfl 6 rfl rfl ?_ | refine YU.storeAL tabOk rfl rfl rfl 7 rfl rfl ?_ | refine YU.storeAL tabOk rfl rfl rfl 8 rfl rfl ?_ | refine YU.storeAL tabOk rfl rfl rfl 9 rfl rfl ?_ | refine YU.storeAL tabOk rfl rfl rfl 10 rfl rfl ?_ | refine YU.storeAL tabOk rfl rfl rfl 11 rfl rfl ?_ | refine YU.storeAL tabOk rfl rfl rfl 12 rfl rfl ?_)
    | (show Wr _ _ _; first | refine Wr.any (x := lost + 1) ?_ | refine Wr.i64 (by omega) ?_ | refine Wr.u8 (by omega) ?_ | refine Wr.u16 (by omega) ?_ | refine Wr.u32 (by omega) ?_)
    | (show BIf _ _ _; first | refine BIf.pos rfl ?_ | refine BIf.neg rfl ?_)
    | (show Lp _ _ _ _ _; first | (refine Lp.sub (α := Rl) [9, 7, 8] [0, 1, 5, 6] _ (fun x => [.int .i64 x.i, rcV x.hv, .int .i64 x.lost]) (fun x => [bothE c1 p' p q j, ramE p' F 16, frE F X, iomE p mr mb (rcV x.rc) x.lost, maR mr 0 [], maB mb 0 [], rcE x.rc, rcE x.hv, d3]) (fun x => x.i ≤ 60 ∧ (rcOk x.rc ∧ rcOk x.hv ∧ rcL x.rc = rcL x.hv) ∧ (rcL x.rc).length ≤ 8) (fun x => 60 - x.i) rfl rfl ⟨0, .no d1, .no d2, 0⟩ ⟨by show 0 ≤ 60; omega, ⟨trivial, trivial, rfl⟩, by show 0 ≤ 8; omega⟩ rfl ⟨[4, 5, 6, 7, 8, 9, 0, 1, 2], rfl, rfl⟩ (fun st hst => ?_); obtain ⟨i, rc, hv, lost⟩ := st; obtain ⟨hi60, ⟨hrc, hhv, hE⟩, h8⟩ := hst; dsimp only at hi60 hrc hE h8; obtain ⟨L9, hL9⟩ : ∃ L9, rcL hv = L9 := ⟨_, rfl⟩; rw [hL9] at hE; have h9 : L9.length ≤ 8 := hE ▸ h8; rcases Nat.lt_or_ge L9.length 8 with hlt | hge <;> first | (have hN : ∀ z, recN L9 z = z := fun z => recN_t hlt; have hM : ∀ z, recL z L9 = L9 ++ [z] := fun z => recL_t hlt; rcases hv with e9 | ⟨bb, pre, ls, sl, cap9⟩ <;> (dsimp only [rcL] at hL9; subst hL9; dsimp only)) | (have hN : ∀ z, recN L9 z = up z := fun z => recN_f (by omega); have hM : ∀ z, recL z L9 = L9 := fun z => recL_f (by omega); rcases hv with e9 | ⟨bb, pre, ls, sl, cap9⟩ <;> (dsimp only [rcL] at hL9; subst hL9; dsimp only; first | (exfalso; simp at hge; done) | skip))) | refine Lp.subK (α := Nat) [18] [7, 16, 5] _ (fun k => [.int .i64 k]) _ (fun k => k ≤ l1.length) (fun k => l1.length - k) rfl rfl 0 (by omega) rfl ⟨[0, 1, 2, 3, 4, 5, 6, 7, 8], rfl, rfl⟩ (fun k hk => ?_) | refine Lp.rounds 1 ?_)
    | (show Dr _ _ _ _ _ _ _ _ _; first | (show Dr _ _ _ _ _ (Array.toList #[⟨some 50, _, _, _, _, _⟩, _, _, _, _, _, _, _, _, _, _, _, _, _, _, _, _, _, _, _, _, _]) _ _ _; refine Dr.mp 16 (.one 16 (.one 17 (.take 18 (.take 19 (.one 20 (.one 21 .done)))))) (by kernel_rfl) ?_) | refine Dr.all (by kernel_rfl) ?_)
    | (show Fork _ _; first | refine Fork.mk ?_ ?_)
    | (show Vc.Fin _ _ _; first | refine Fin.take 0 (And.intro ?_ rfl))
    | refine dma_split (fun hA => ?_) (fun hA => ?_)
    | refine ⟨⟨i + 1, _, .at_ b' [] [(Rd4.mk ((i : Int) % 16) ((64 * pg + i) / 64) 1 (decide ((i : Int) % 3 = 0)))] sl' cap', lost⟩, ⟨by show i + 1 ≤ 60; omega, ⟨c.1, ⟨hfl.1, Nat.le_of_eq hfl.2.symm⟩, c.2⟩, by rw [c.2]; show 1 ≤ 8; omega⟩, by show 60 - (i + 1) < 60 - i; omega, rfl, ⟨[0, 1, 2, 3, 4, 5, 6, 11, 8], rfl, rfl⟩⟩
    | refine ⟨⟨i + 1, _, .at_ b' pre' (ls ++ [(Rd4.mk ((i : Int) % 16) ((64 * pg + i) / 64) 1 (decide ((i : Int) % 3 = 0)))]) sl' cap', lost⟩, ⟨by show i + 1 ≤ 60; omega, ⟨c.1, hfl, c.2⟩, by rw [c.2]; simp; omega⟩, by show 60 - (i + 1) < 60 - i; omega, rfl, ⟨[0, 1, 2, 3, 4, 5, 6, 7, 8], rfl, rfl⟩⟩
    | refine ⟨⟨i + 1, _, .at_ bb pre ls sl cap9, up lost⟩, ⟨by show i + 1 ≤ 60; omega, ⟨c.1, hhv, c.2⟩, by rw [c.2]; omega⟩, by show 60 - (i + 1) < 60 - i; omega, rfl, ⟨[0, 1, 2, 3, 4, 5, 6, 7, 8], rfl, rfl⟩⟩
    | refine ⟨⟨i + 1, rc, .no e9, lost⟩, ⟨by show i + 1 ≤ 60; omega, ⟨hrc, trivial, hE⟩, h8⟩, by show 60 - (i + 1) < 60 - i; omega, rfl, ⟨[0, 1, 2, 3, 4, 5, 6, 7, 8], rfl, rfl⟩⟩
    | refine ⟨⟨i + 1, rc, .at_ bb pre ls sl cap9, lost⟩, ⟨by show i + 1 ≤ 60; omega, ⟨hrc, hhv, hE⟩, h8⟩, by show 60 - (i + 1) < 60 - i; omega, rfl, ⟨[0, 1, 2, 3, 4, 5, 6, 7, 8], rfl, rfl⟩⟩
    | (obtain ⟨rc9, ⟨k1, k2⟩, k3, k4⟩ := resl_rc b' [] [(Rd4.mk ((i : Int) % 16) ((64 * pg + i) / 64) 1 (decide ((i : Int) % 3 = 0)))] sl' cap' ⟨hfl.1, Nat.le_of_eq hfl.2.symm⟩ (by simp); refine ⟨⟨i + 1, _, rc9, lost⟩, ⟨by show i + 1 ≤ 60; omega, ⟨c.1, k1, c.2.trans k2.symm⟩, by rw [c.2]; simp; try omega⟩, by show 60 - (i + 1) < 60 - i; omega, (by show _ = some [_, rcV rc9, _]; rw [k4]; rfl), ⟨[0, 1, 2, 3, 4, 5, 6, 11, 8], (by first | rfl | (rw [k3]; rfl)), (by first | rfl | (rw [k3]; rfl))⟩⟩)
    | (obtain ⟨rc9, ⟨k1, k2⟩, k3, k4⟩ := resl_rc b' pre' (ls ++ [(Rd4.mk ((i : Int) % 16) ((64 * pg + i) / 64) 1 (decide ((i : Int) % 3 = 0)))]) sl' cap' hfl (by simp); refine ⟨⟨i + 1, _, rc9, lost⟩, ⟨by show i + 1 ≤ 60; omega, ⟨c.1, k1, c.2.trans k2.symm⟩, by rw [c.2]; simp; try omega⟩, by show 60 - (i + 1) < 60 - i; omega, (by show _ = some [_, rcV rc9, _]; rw [k4]; rfl), ⟨[0, 1, 2, 3, 4, 5, 6, 7, 8], (by first | rfl | (rw [k3]; rfl)), (by first | rfl | (rw [k3]; rfl))⟩⟩)
    | (obtain ⟨rc9, ⟨k1, k2⟩, k3, k4⟩ := resl_rc bb pre ls sl cap9 hhv (by omega); refine ⟨⟨i + 1, _, rc9, up lost⟩, ⟨by show i + 1 ≤ 60; omega, ⟨c.1, k1, c.2.trans k2.symm⟩, by rw [c.2]; simp; try omega⟩, by show 60 - (i + 1) < 60 - i; omega, (by show _ = some [_, rcV rc9, _]; rw [k4]; rfl), ⟨[0, 1, 2, 3, 4, 5, 6, 7, 8], (by first | rfl | (rw [k3]; rfl)), (by first | rfl | (rw [k3]; rfl))⟩⟩)
    | refine ⟨k + 1, by omega, by omega, rfl, [0, 1, 2, 3, 4, 5, 6, 7, 8], rfl, rfl⟩
    | intro b)
  all_goals first
    | (show Value.bool _ = Value.bool _; rfl)
    | contradiction
    | (exfalso; omega)
    | (exfalso; rw [List.length_append] at hc; simp only [List.length_cons, List.length_nil] at hc; omega)
theorem iommuRecords_walk (a0 : Option Addr) (len0 cap0 n0 : Nat) {W : World} (rd0 : Rd Try.prog W n0 22 (Value.slice a0 len0 cap0).cells.toList) (a1 : Option Addr) (len1 cap1 n1 : Nat) (rd1 : Rd Try.prog W n1 23 (Value.slice a1 len1 cap1).cells.toList) :
    Calls Try.prog 3 #[.slice a0 len0 cap0, .slice a1 len1 cap1] W fun e w' => e = .returned (.bool true) ∧ RowKit.Below W.heap.size W w' := by
  obtain ⟨ps, h1, -, -, h2⟩ := rd_arr rd0 Try.underlying22 (by kernel_rfl) (fun k es hl hR => by
    obtain ⟨x, h, _⟩ := rd_int hR Try.underlying3
    exact ⟨x, h⟩ : ∀ k es, _ → _ → ∃ x : Int, es = pgV x)
  obtain ⟨ts, g1, -, -, g2⟩ := rd_arr rd1 Try.underlying23 (by kernel_rfl) (fun k es hl hR => by
    obtain ⟨x, h⟩ := rd_bool hR Try.underlying4
    exact ⟨x, h⟩ : ∀ k es, _ → _ → ∃ x : Bool, es = bkV x)
  exact (iommuRecords_con _ (mkX_in []).1 (mkX_in []).2 rfl a0 len0 cap0 W ps h1 h2 a1 len1 cap1 ts g1 g2).law
end Go.Proofs.Ytggbhokhibfdmaa
