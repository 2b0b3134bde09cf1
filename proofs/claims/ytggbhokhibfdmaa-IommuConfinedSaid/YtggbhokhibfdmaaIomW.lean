/- The chapter's examples of a controller come out; what is handed to its laws. Conditions: none. -/
import Derived.Test.YtggbhokhibfdmaaIomS
set_option linter.unusedVariables false
set_option linter.unusedSimpArgs false
set_option linter.unusedSectionVars false
set_option maxRecDepth 10000
set_option maxHeartbeats 16000000
namespace Go.Proofs.Ytggbhokhibfdmaa
open Vc Mem
theorem dma_con2 (p mr mb p' F : Nat) (s : Js) (h : JI s) (st ad : Int) (wr : Bool) (b : Int) (hb : 0 ≤ b ∧ b ≤ 255) (rc : Rc) (hI : rcOk rc ∧ rcL rc = s.L) (w : World) (hw : Own w [iomE p mr mb (rcV rc) s.lost, maR mr s.rk s.R, maB mb s.bk s.B, ramE p' F 16, frE F s.X, rcE rc]) :
    Con Try.prog 15 [.pointer (some ⟨p, 0, none⟩), .pointer (some ⟨p', 0, none⟩), .int .i64 st, .int .i64 ad, .bool wr, .int .u8 b] w [iomE p mr mb (rcV rc) s.lost, maR mr s.rk s.R, maB mb s.bk s.B, ramE p' F 16, frE F s.X, rcE rc]
      (fun y L' => ∃ rc', (rcOk rc' ∧ rcL rc' = (dmaJ s st ad wr b).L) ∧ y = .tuple #[.int .u8 (dmaV s st ad wr b), .int .i64 (dmaE s st ad wr)] ∧
        L' = [iomE p mr mb (rcV rc') (dmaJ s st ad wr b).lost, maR mr (dmaJ s st ad wr b).rk (dmaJ s st ad wr b).R, maB mb (dmaJ s st ad wr b).bk (dmaJ s st ad wr b).B, ramE p' F 16, frE F (dmaJ s st ad wr b).X, rcE rc']) :=
  dma_con p mr mb p' F s h rc hI.1 hI.2 st ad wr b hb w hw
def js0 (X : List Int) : Js := ⟨[], 0, [], 0, 0, X, []⟩
theorem JI0 {X : List Int} (h1 : X.length = 16 * 64) (h2 : By X) : JI (js0 X) :=
  { kR := kn_nil 0, kB := kn_nil 0, rR := fun x hx => (by simp [js0] at hx), rB := fun x hx => (by simp [js0] at hx), fB := fun x hx => (by simp [js0] at hx), len := h1, by_ := h2, l8 := by simp [js0] }
theorem awake10_aux (X : List Int) (hX : mkX exP = X) (hl : X.length = 16 * 64) (J0 : JI ⟨[], 0, [], 0, 0, X, []⟩) (s1 : Js) (J1 : JI s1) (e1 : dmaJ ⟨[], 0, [], 0, 0, X, []⟩ 0 192 false 0 = s1) (E1 : dmaE ⟨[], 0, [], 0, 0, X, []⟩ 0 192 false = 101)
    (R2 : List (Me Int)) (k2 : Nat) (B2 : List (Me Fd)) (e2 : attR 0 1 s1.R s1.rk = R2) (e2k : attC 0 1 s1.R s1.rk = k2) (e2b : attB 0 1 s1.B = B2) (E2 : attE 0 1 = 0) (hB1 : s1.B.length ≤ 1000)
    (J2 : JI { s1 with R := R2, rk := k2, B := B2 }) (s3 : Js) (J3 : JI s3) (e3 : dmaJ { s1 with R := R2, rk := k2, B := B2 } 0 194 false 0 = s3) (E3 : dmaE { s1 with R := R2, rk := k2, B := B2 } 0 194 false = 0) (V3 : dmaV { s1 with R := R2, rk := k2, B := B2 } 0 194 false 0 = 199)
    (s4 : Js) (J4 : JI s4) (e4 : dmaJ s3 0 194 true 9 = s4) (E4 : dmaE s3 0 194 true = 101) (hX4 : s4.X = X) (X5 : List Int) (e5 : putL 16 X 2 3 et0 = X5) (J5 : JI { s4 with X := X5 }) (s6 : Js) (J6 : JI s6) (e6 : dmaJ { s4 with X := X5 } 0 194 false 0 = s6) (E6 : dmaE { s4 with X := X5 } 0 194 false = 0)
    (B7 : List (Me Fd)) (e7 : fgL (prP 0 3) s6.B = B7) (E7 : fgN (prP 0 3) s6.B = 1) (hB6 : s6.B.length ≤ 1000) (J7 : JI { s6 with B := B7 }) (s8 : Js) (e8 : dmaJ { s6 with B := B7 } 0 194 false 0 = s8) (E8 : dmaE { s6 with B := B7 } 0 194 false = 101) (r3 : Rd4) (hL8 : s8.L = [⟨0, 3, 1, false⟩, ⟨0, 3, 2, true⟩, r3]) (w : World) :
    Con Try.prog 13 [] w [] (fun y L' => ∃ d1 d2 d3 d4, y = .bool true ∧ L' = [d1, d2, d3, d4]) := by
  refine Con.of_vc tabOk 147 [.tmp 0] Try.func13 rfl Try.ntmps13 Try.results13 rfl (Own.nil' w) ?_
  repeat' ((conv => whnf); first
    | (show _ ∧ _; first | (simp only [hX] at hx) | (simp only [e1, E1] at hx) | (simp only [e2, e2k, e2b, E2] at hx) | (simp only [e3, E3, V3] at hx) | (simp only [e4, E4, hX4] at hx) | (simp only [e5] at hx) | (simp only [e6, E6] at hx) | (simp only [e7, E7] at hx) | (simp only [e8, E8] at hx) | (obtain ⟨rfl, rfl⟩ := hx; refine ⟨rfl, ?_⟩) | (obtain ⟨b, rfl, rfl⟩ := hx; refine ⟨rfl, ?_⟩) | (obtain ⟨b, c, rfl, rfl⟩ := hx; refine ⟨rfl, ?_⟩) | (obtain ⟨c, p', F, p, mr, mb, q, B2', j, rfl, rfl⟩ := hx; refine ⟨rfl, ?_⟩) | (obtain ⟨rfl, rfl⟩ := hx; refine ⟨rfl, ?_⟩) | (obtain ⟨b, rfl, rfl⟩ := hx; refine ⟨rfl, ?_⟩) | (obtain ⟨b, c, rfl, rfl⟩ := hx; refine ⟨rfl, ?_⟩))
    | (show gsplit _ _ _; first | refine gsplit.tt ?_ | refine gsplit.ff ?_ | refine gsplit.dpos (by omega) ?_ | refine gsplit.dneg (by omega) ?_ | refine gsplit.npos (by omega) ?_ | refine gsplit.nneg (by omega) ?_ | refine gsplit.dec (fun hc => ?_) (fun hc => ?_) | refine gsplit.ndec (fun hc => ?_) (fun hc => ?_) | refine gsplit.eq (fun hc => ?_) (fun hc => ?_) | refine gsplit.neq (fun hc => ?_) (fun hc => ?_) | refine gsplit.mk (fun hb => ?_) (fun hb => ?_))
    | (show YQ _ _ _ _ _ _; first | refine qeqp Try.underlying25 ?_ | refine YQ.idx tabOk rfl (by simp) ?_ | refine YQ.loadRow tabOk rfl 8 0 rfl rdV_len rfl rfl ?_ | refine YQ.loadRow tabOk rfl 8 1 rfl rdV_len rfl rfl ?_ | refine YQ.remN (by omega) ?_ | refine YQ.quoN (by omega) ?_ | refine YQ.len tabOk rfl ?_ | refine YQ.idx tabOk rfl (by omega) ?_ | refine YQ.idxA tabOk rfl (by omega) ?_ | refine YQ.sliceA tabOk rfl (by omega) (by omega) ?_ | refine YQ.sliceAll tabOk rfl ?_ | refine YQ.load1 tabOk rfl 0 rfl rfl ?_ | refine YQ.load1 tabOk rfl 1 rfl rfl ?_ | refine YQ.load1 tabOk rfl 2 rfl rfl ?_ | refine YQ.load1 tabOk rfl 3 rfl rfl ?_ | refine YQ.load1 tabOk rfl 4 rfl rfl ?_ | refine YQ.load1 tabOk rfl 5 rfl rfl ?_ | refine YQ.load1 tabOk rfl 6 rfl rfl ?_ | refine YQ.load1 tabOk rfl 7 rfl rfl ?_ | refine YQ.load1 tabOk rfl 8 rfl rfl ?_ | refine YQ.load1 tabOk rfl 9 rfl rfl ?_ | refine YQ.load1 tabOk rfl 10 rfl rfl ?_ | refine YQ.load1 tabOk rfl 11 rfl rfl ?_ | refine YQ.load1 tabOk rfl 12 rfl rfl ?_ | refine YQ.loadF tabOk rfl 0 rfl rfl ?_ | refine YQ.loadF tabOk rfl 1 rfl rfl ?_ | refine YQ.loadF tabOk rfl 2 rfl rfl ?_ | refine YQ.loadF tabOk rfl 3 rfl rfl ?_ | refine YQ.loadF tabOk rfl 4 rfl rfl ?_ | refine YQ.loadF tabOk rfl 5 rfl rfl ?_ | refine YQ.loadF tabOk rfl 6 rfl rfl ?_ | refine YQ.loadF tabOk rfl 7 rfl rfl ?_ | refine YQ.loadF tabOk rfl 8 rfl rfl ?_ | refine YQ.loadF tabOk rfl 9 rfl rfl ?_ | refine YQ.loadF tabOk rfl 10 rfl rfl ?_ | refine YQ.loadF tabOk rfl 11 rfl rfl ?_ | refine YQ.loadF tabOk rfl 12 rfl rfl ?_ | refine YQ.loadA tabOk rfl 0 rfl rfl rfl ?_ | refine YQ.loadA tabOk rfl 1 rfl rfl rfl ?_ | refine YQ.loadA tabOk rfl 2 rfl rfl rfl ?_ | refine YQ.loadA tabOk rfl 3 rfl rfl rfl ?_ | refine YQ.loadA tabOk rfl 4 rfl rfl rfl ?_ | refine YQ.loadA tabOk rfl 5 rfl rfl rfl ?_ | refine YQ.loadA tabOk rfl 6 rfl rfl rfl ?_ | refine YQ.loadA tabOk rfl 7 rfl rfl rfl ?_ | refine YQ.loadA tabOk rfl 8 rfl rfl rfl ?_ | refine YQ.loadA tabOk rfl 9 rfl rfl rfl ?_ | refine YQ.loadA tabOk rfl 10 rfl rfl rfl ?_ | refine YQ.loadA tabOk rfl 11 rfl rfl rfl ?_ | refine YQ.loadA tabOk rfl 12 rfl rfl rfl ?_ | refine YQ.build tabOk rfl rfl rfl ?_ | refine YQ.eqF tabOk rfl rfl rfl ?_ | refine YQ.neF tabOk rfl rfl rfl ?_)
    | (show YC _ _ _ _ _ _ _; first | refine YC.conR [] [] rfl rfl (fun w _ _ => example10_con w) (fun x L' hx => ?_) | refine YC.conR [] [] rfl rfl (fun w hw0 _ => made10_con _ 2 _ w exP rfl (hw0.arr (ls := exP) (tl := []) pdV_len 0 (by rw [List.append_nil]; rfl))) (fun x L' hx => ?_) | refine YC.conR [4, 5, 6, 2, 3, 0] _ rfl rfl (fun w hw0 hw => dma_con2 _ _ _ _ _ ⟨[], 0, [], 0, 0, X, []⟩ J0 0 192 false 0 (by omega) (.no _) ⟨trivial, rfl⟩ w hw) (fun x L' hx => ?_) | refine YC.conR [4, 5, 6] _ rfl rfl (fun w hw0 hw => attach_con _ _ _ _ s1.lost s1.rk s1.bk s1.R s1.B J1.kB hB1 0 1 w hw) (fun x L' hx => ?_) | refine YC.conR [4, 5, 6, 2, 3, 0] _ rfl rfl (fun w hw0 hw => dma_con2 _ _ _ _ _ { s1 with R := R2, rk := k2, B := B2 } J2 0 194 false 0 (by omega) _ (by assumption) w hw) (fun x L' hx => ?_) | refine YC.conR [4, 5, 6, 2, 3, 0] _ rfl rfl (fun w hw0 hw => dma_con2 _ _ _ _ _ s3 J3 0 194 true 9 (by omega) _ (by assumption) w hw) (fun x L' hx => ?_) | refine YC.conR [1, 2, 3, 7, 8] _ rfl rfl (fun w hw0 hw => put10_con _ _ _ _ _ _ _ X hl 2 3 et0 w hw) (fun x L' hx => ?_) | refine YC.conR [4, 5, 6, 2, 3, 0] _ rfl rfl (fun w hw0 hw => dma_con2 _ _ _ _ _ { s4 with X := X5 } J5 0 194 false 0 (by omega) _ (by assumption) w hw) (fun x L' hx => ?_) | refine YC.conR [4, 6] _ rfl rfl (fun w hw0 hw => iflushP_con _ _ _ _ s6.lost s6.bk s6.B J6.kB hB6 0 3 w hw) (fun x L' hx => ?_) | refine YC.conR [4, 5, 6, 2, 3, 0] _ rfl rfl (fun w hw0 hw => dma_con2 _ _ _ _ _ { s6 with B := B7 } J7 0 194 false 0 (by omega) _ (by assumption) w hw) (fun x L' hx => ?_) | (refine YC.conR [4, 0, 8] _ rfl rfl (fun w hw0 hw => records_con _ _ _ _ (by rw [c.2, hL8]; show 3 ≤ 8; omega) s8.lost _ w hw) (fun x L' hx => ?_); obtain ⟨rz', ⟨g1, g2⟩, rfl, rfl⟩ := hx; refine ⟨rfl, ?_⟩; rcases rz' with d' | ⟨b1, l1, sl1, cap1⟩ <;> (have g3 := (g2.trans c.2).trans hL8; dsimp only [rzL] at g3; first | (exact absurd g3 (by simp)) | subst g3)))
    | (show YU _ _ _ _ _ _ _ _; first | refine YU.store1L tabOk rfl rfl 0 rfl rfl ?_ | refine YU.store1L tabOk rfl rfl 1 rfl rfl ?_ | refine YU.store1L tabOk rfl rfl 2 rfl rfl ?_ | refine YU.store1L tabOk rfl rfl 3 rfl rfl ?_ | refine YU.store1L tabOk rfl rfl 4 rfl rfl ?_ | refine YU.store1L tabOk rfl rfl 5 rfl rfl ?_ | refine YU.store1L tabOk rfl rfl 6 rfl rfl ?_ | refine YU.store1L tabOk rfl rfl 7 rfl rfl ?_ | refine YU.store1L tabOk rfl rfl 8 rfl rfl ?_ | refine YU.store1L tabOk rfl rfl 9 rfl rfl ?_ | refine YU.store1L tabOk rfl rfl 10 rfl rfl ?_ | refine YU.store1L tabOk rfl rfl 11 rfl rfl ?_ | refine YU.store1L tabOk rfl rfl 12 rfl rfl ?_ | refine YU.storeF tabOk rfl rfl rfl 0 rfl rfl ?_ | refine YU.storeF tabOk rfl rfl rfl 1 rfl rfl ?_ | refine YU.storeF tabOk rfl rfl rfl 2 rfl rfl ?_ | refine YU.storeF tabOk rfl rfl rfl 3 rfl rfl ?_ | refine YU.storeF tabOk rfl rfl rfl 4 rfl rfl ?_ | refine YU.storeF tabOk rfl rfl rfl 5 rfl rfl ?_ | refine YU.storeF tabOk rfl rfl rfl 6 rfl rfl ?_ | refine YU.storeF tabOk rfl rfl rfl 7 rfl rfl ?_ | refine YU.storeF tabOk rfl rfl rfl 8 rfl rfl ?_ | refine YU.storeF tabOk rfl rfl rfl 9 rfl rfl ?_ | refine YU.storeF tabOk rfl rfl rfl 10 rfl rfl ?_ | refine YU.storeF tabOk rfl rfl rfl 11 rfl rfl ?_ | refine YU.storeF tabOk rfl rfl rfl 12 rfl rfl ?_ | refine YU.storeAL tabOk rfl rfl rfl 0 rfl rfl ?_ | refine YU.storeAL tabOk rfl rfl rfl 1 rfl rfl ?_ | refine YU.storeAL tabOk rfl rfl rfl 2 rfl rfl ?_ | refine YU.storeAL tabOk rfl rfl rfl 3 rfl rfl ?_ | refine YU.storeAL tabOk rfl rfl rfl 4 rfl rfl ?_ | refine YU.storeAL tabOk rfl rfl rfl 5 rfl rfl ?_ | refine YU.storeAL tabOk rfl rfl rfl 6 rfl rfl ?_ | refine YU.storeAL tabOk rfl rfl rfl 7 rfl rfl ?_ | refine YU.storeAL tabOk rfl rfl rfl 8 rfl rfl ?_ | refine YU.storeAL tabOk rfl rfl rfl 9 rfl rfl ?_ | refine YU.storeAL tabOk rfl rfl rfl 10 rfl rfl ?_ | refine YU.storeAL tabOk rfl rfl rfl 11 rfl rfl ?_ | refine YU.storeAL tabOk rfl rfl rfl 12 rfl rfl ?_)
    | (show Wr _ _ _; first | refine Wr.i64 (by omega) ?_ | refine Wr.u8 (by omega) ?_ | refine Wr.u16 (by omega) ?_ | refine Wr.u32 (by omega) ?_)
    | (show BIf _ _ _; first | refine BIf.pos rfl ?_ | refine BIf.neg rfl ?_)
    | (show Dr _ _ _ _ _ _ _ _ _; first | (show Dr _ _ _ _ _ (Array.toList #[⟨some 20, _, _, _, _, _⟩, _, _, _, _, _, _, _, _, _, _, _, _, _]) _ _ _; refine Dr.mp 8 (.one 8 (.one 9 (.take 10 (.take 11 (.one 12 (.one 13 .done)))))) (by kernel_rfl) ?_) | (show Dr _ _ _ _ _ (Array.toList #[⟨some 37, _, _, _, _, _⟩, _, _, _, _, _, _, _, _, _, _, _, _, _]) _ _ _; refine Dr.mp 8 (.one 8 (.one 9 (.take 10 (.take 11 (.one 12 (.one 13 .done)))))) (by kernel_rfl) ?_) | (show Dr _ _ _ _ _ (Array.toList #[⟨some 49, _, _, _, _, _⟩, _, _, _, _, _, _, _, _, _, _, _, _, _]) _ _ _; refine Dr.mp 8 (.one 8 (.one 9 (.take 10 (.take 11 (.one 12 (.one 13 .done)))))) (by kernel_rfl) ?_) | (show Dr _ _ _ _ _ (Array.toList #[⟨some 65, _, _, _, _, _⟩, _, _, _, _, _, _, _, _, _, _, _, _, _]) _ _ _; refine Dr.mp 8 (.one 8 (.one 9 (.take 10 (.take 11 (.one 12 (.one 13 .done)))))) (by kernel_rfl) ?_) | (show Dr _ _ _ _ _ (Array.toList #[⟨some 82, _, _, _, _, _⟩, _, _, _, _, _, _, _, _, _, _, _, _, _]) _ _ _; refine Dr.mp 8 (.one 8 (.one 9 (.take 10 (.take 11 (.one 12 (.one 13 .done)))))) (by kernel_rfl) ?_) | refine Dr.all (by kernel_rfl) ?_)
    | (show Fork _ _; first | refine Fork.mk ?_ ?_)
    | (show Vc.Fin _ _ _; first | refine Vc.Fin.sub _ ⟨[2, 3, 7, 9], rfl, rfl⟩ ⟨_, _, _, _, ?_, rfl⟩)
    | intro b)
  all_goals first
    | (show Value.bool _ = Value.bool _; rfl)
    | (show Value.bool (eqB (rdV ⟨0, 3, 2, true⟩) (rdV ⟨0, 3, 2, true⟩)) = Value.bool true; rw [eqB_rd]; done)
    | (exfalso; exact hc ⟨rfl, rfl, rfl, rfl, trivial⟩)
def aw0 : Js := ⟨[], 0, [], 0, 0, mkX exP, []⟩
def aw1 : Js := dmaJ aw0 0 192 false 0
def aw2 : Js := { aw1 with R := attR 0 1 aw1.R aw1.rk, rk := attC 0 1 aw1.R aw1.rk, B := attB 0 1 aw1.B }
def aw3 : Js := dmaJ aw2 0 194 false 0
def aw4 : Js := dmaJ aw3 0 194 true 9
def aw5 : Js := { aw4 with X := putL 16 (mkX exP) 2 3 et0 }
def aw6 : Js := dmaJ aw5 0 194 false 0
def aw7 : Js := { aw6 with B := fgL (prP 0 3) aw6.B }
def aw8 : Js := dmaJ aw7 0 194 false 0
theorem awJ0 : JI aw0 := JI0 (mkX_in exP).1 (mkX_in exP).2
theorem awJ1 : JI aw1 := awJ0.dma _ _ _ (by omega)
theorem awJ2 : JI aw2 := awJ1.act ⟨1, 0, 1, false, 0, 0, 0, et0, by omega⟩
theorem awJ3 : JI aw3 := awJ2.dma _ _ _ (by omega)
theorem awJ4 : JI aw4 := awJ3.dma _ _ _ (by omega)
theorem awX1 : aw1.X = mkX exP := by kernel_rfl
theorem awX4 : aw4.X = mkX exP := by kernel_rfl
theorem awJ5 : JI aw5 := by
  have := awJ4.act ⟨8, 0, 0, false, 0, 2, 3, et0, by omega⟩
  have e : actJ aw4 ⟨8, 0, 0, false, 0, 2, 3, et0, by omega⟩ = { aw4 with X := putL 16 aw4.X 2 3 et0 } := rfl
  rw [e, awX4] at this
  exact this
theorem awJ6 : JI aw6 := awJ5.dma _ _ _ (by omega)
theorem awJ7 : JI aw7 := awJ6.act ⟨5, 0, 3, false, 0, 0, 0, et0, by omega⟩
theorem awE1 : dmaE aw0 0 192 false = 101 := by kernel_rfl
theorem awE3 : dmaE aw2 0 194 false = 0 := by kernel_rfl
theorem awV3 : dmaV aw2 0 194 false 0 = 199 := by kernel_rfl
theorem awE4 : dmaE aw3 0 194 true = 101 := by kernel_rfl
theorem awE6 : dmaE aw5 0 194 false = 0 := by kernel_rfl
theorem awE7 : fgN (prP 0 3) aw6.B = 1 := by kernel_rfl
theorem awE8 : dmaE aw7 0 194 false = 101 := by kernel_rfl
theorem awL8 : aw8.L = [⟨0, 3, 1, false⟩, ⟨0, 3, 2, true⟩, ⟨0, 3, 1, false⟩] := by kernel_rfl
theorem awake10_con (w : World) : Con Try.prog 13 [] w [] (fun y L' => ∃ d1 d2 d3 d4, y = .bool true ∧ L' = [d1, d2, d3, d4]) :=
  awake10_aux (mkX exP) rfl (mkX_in exP).1 awJ0 aw1 awJ1 rfl awE1 _ _ _ rfl rfl rfl rfl (by have := B_small awJ1.kB.1 awJ1.rB; omega) awJ2 aw3 awJ3 rfl awE3 awV3 aw4 awJ4 rfl awE4 awX4 _ rfl awJ5 aw6 awJ6 rfl awE6 _ rfl awE7 (by have := B_small awJ6.kB.1 awJ6.rB; omega) awJ7 aw8 rfl awE8 _ awL8 w
/-! what is handed in -/
theorem rd_put10 {W : World} {n : Nat} {cs : List Value} (h : Rd Try.prog W n 49 cs) : ∃ u : Pd, cs = pdV u := by
  obtain ⟨hl, m, hf⟩ := rd_struct h Try.underlying49
  have hc : Try.prog.cellsOf 49 = 6 := by kernel_rfl
  have hi : Try.prog.cellsOf 3 = 1 := by kernel_rfl
  have he : Try.prog.cellsOf 47 = 4 := by kernel_rfl
  rw [hc] at hl
  obtain ⟨c0, c1, c2, c3, c4, c5, rfl⟩ : ∃ a b c d e f, cs = [a, b, c, d, e, f] := by
    match cs, hl with
    | [a, b, c, d, e, f], _ => exact ⟨a, b, c, d, e, f, rfl⟩
  obtain ⟨t, h0, -⟩ := rd_int (hf 0 _ rfl) Try.underlying3
  obtain ⟨i, h1, -⟩ := rd_int (hf 1 _ rfl) Try.underlying3
  have h2 := hf 2 _ rfl
  simp [hi] at h0 h1
  simp [he] at h2
  obtain ⟨ev, el, er, ef, h5, -⟩ := rd_entry h2
  simp at h5
  obtain ⟨rfl, rfl, rfl, rfl⟩ := h5
  exact ⟨⟨t, i, ⟨ev, el, er, ef⟩⟩, by rw [h0, h1]; rfl⟩
theorem rd_puts10 {W : World} {n : Nat} {a : Option Addr} {len cap : Nat} (h : Rd Try.prog W n 44 (Value.slice a len cap).cells.toList) : ∃ us : List Pd, us.length = len ∧ Arr W 6 pdV a us := by
  obtain ⟨acts, h1, h2, h3, h4⟩ := rd_arr h Try.underlying44 (by kernel_rfl) (fun k es hl hR => rd_put10 hR)
  exact ⟨acts, h1, h4⟩
theorem rd_act10 {W : World} {n : Nat} {cs : List Value} (h : Rd Try.prog W n 51 cs) : ∃ a : Ac, cs = acV a := by
  obtain ⟨hl, m, hf⟩ := rd_struct h Try.underlying51
  have hc : Try.prog.cellsOf 51 = 11 := by kernel_rfl
  have hi : Try.prog.cellsOf 3 = 1 := by kernel_rfl
  have hb : Try.prog.cellsOf 4 = 1 := by kernel_rfl
  have hu : Try.prog.cellsOf 5 = 1 := by kernel_rfl
  have hp : Try.prog.cellsOf 49 = 6 := by kernel_rfl
  rw [hc] at hl
  obtain ⟨c0, c1, c2, c3, c4, c5, c6, c7, c8, c9, c10, rfl⟩ : ∃ a b c d e f g i j k l, cs = [a, b, c, d, e, f, g, i, j, k, l] := by
    match cs, hl with
    | [a, b, c, d, e, f, g, i, j, k, l], _ => exact ⟨a, b, c, d, e, f, g, i, j, k, l, rfl⟩
  obtain ⟨d, h0, -⟩ := rd_int (hf 0 _ rfl) Try.underlying3
  obtain ⟨st, h1, -⟩ := rd_int (hf 1 _ rfl) Try.underlying3
  obtain ⟨nn, h2, -⟩ := rd_int (hf 2 _ rfl) Try.underlying3
  obtain ⟨wr, h3⟩ := rd_bool (hf 3 _ rfl) Try.underlying4
  obtain ⟨v, h4, hv⟩ := rd_int (hf 4 _ rfl) Try.underlying5
  have h5 := hf 5 _ rfl
  simp [hi] at h0 h1 h2
  simp [hb] at h3
  simp [hu] at h4
  simp [hp] at h5
  obtain ⟨u, h6⟩ := rd_put10 h5
  simp [pdV] at h6
  obtain ⟨rfl, rfl, rfl, rfl, rfl, rfl⟩ := h6
  exact ⟨⟨d, st, nn, wr, v, u.t, u.i, u.x, wf_u8 hv⟩, by rw [h0, h1, h2, h3, h4]; rfl⟩
theorem rd_acts10 {W : World} {n : Nat} {a : Option Addr} {len cap : Nat} (h : Rd Try.prog W n 45 (Value.slice a len cap).cells.toList) : ∃ acts : List Ac, acts.length = len ∧ Arr W 11 acV a acts := by
  obtain ⟨acts, h1, h2, h3, h4⟩ := rd_arr h Try.underlying45 (by kernel_rfl) (fun k es hl hR => rd_act10 hR)
  exact ⟨acts, h1, h4⟩
end Go.Proofs.Ytggbhokhibfdmaa
