/- An access that does not go through: what is left of the statement. Conditions: none. -/
import Derived.Test.YtggbhokhibfdmaaIomW
import Derived.Test.YtggbhokhibfdmaaIomD
set_option linter.unusedVariables false
set_option linter.unusedSimpArgs false
set_option linter.unusedSectionVars false
set_option maxRecDepth 10000
set_option maxHeartbeats 16000000
namespace Go.Proofs.Ytggbhokhibfdmaa
open Vc Mem
structure Cl where
  i : Nat
  s : Js
  rc : Rc
  rz : Rz
theorem YQ.quoA {P : Program} {w0 : World} {I : List Nat} {L : Hs} {t : TypeId} {x y : Operand} {a : Int} {K : Value → Prop} (h : a ≤ 9223372036854775807) (k : ∀ q : Int, (0 ≤ a → q = a / 64) → K (.int .i64 q)) : YQ P w0 I L (.bin .quo t x y (.int .i64 a) (.int .i64 64)) K := by
  by_cases h0 : 0 ≤ a
  · exact YQ.quoN ⟨h0, h, by decide⟩ (k _ (fun _ => rfl))
  · exact YQ.quo (by decide) (Wr.any (k _ (fun h1 => absurd h1 h0)))
theorem Lp.mkK {D : List Nat} {F : (Exit → Env → Hs → Prop) → Env → Hs → Prop} {k : Exit → Env → Hs → Prop} {env : Env} {L : Hs} {α : Type} (S Kp : List Nat) (kv : List Value) (vals : α → List Value) (Inv : α → Prop) (μ : α → Nat)
      (hk : getAll env Kp = some kv) (hd : disj Kp D = true) (x0 : α) (h0 : Inv x0) (hv : getAll env S = some (vals x0))
      (step : ∀ x, Inv x → F (fun e env' L'' => match e with
        | .normal => ∃ x', Inv x' ∧ μ x' < μ x ∧ getAll env' S = some (vals x') ∧ Pre L L''
        | e => k e env' L'') (zipE S (vals x) (zipE Kp kv [])) L) : Lp D F k env L :=
  Lp.mk S Kp kv vals (fun _ => L) Inv μ hk hd x0 h0 hv ⟨[], (List.append_nil L).symm⟩ step
theorem cAt_of {L : Hs} {i : Nat} {e : Ent} (h : L[i]? = some e) (ht : isC e.t = true) : cAt L i = some e := by
  unfold cAt; rw [h]; dsimp only; rw [ht]
theorem tail_last (X : List Int) (bs : List Nat) (e : Ent) : ((tailB X bs ++ ([] : Hs)) ++ [e])[bs.length]? = some e := by
  rw [List.append_nil, List.getElem?_append_right (by rw [tailB_len]; exact Nat.le_refl _), tailB_len, Nat.sub_self]; rfl
theorem tail_in (X : List Int) (bs : List Nat) (e : Ent) {k : Nat} (hk : k < bs.length) : ((tailB X bs ++ ([] : Hs)) ++ [e])[k]? = some (frE (bs.getD k 0) (frm X k)) := by
  rw [List.append_nil, List.getElem?_append_left (by rw [tailB_len]; exact hk), tailB_at _ _ hk]
theorem gt_frmC (xs : List Int) (k i : Nat) (h : i < 64) : gt (frm xs k) i = gt xs (k * 64 + i) := by
  simp only [gt, frm, List.getD_eq_getElem?_getD, List.getElem?_take, List.getElem?_drop, if_pos h]
theorem byte_set {X : List Int} (hl : X.length = 16 * 64) {fr m bt : Int} {k kk : Nat} (hk : k < 16) (hkk : kk < 64) (h1 : 0 ≤ fr) (h2 : fr < 16) (h3 : 0 ≤ m) (h4 : m < 64) :
    gt (frm (X.set (fr * 64 + m).toNat bt) ((k : Nat) : Int).toNat) kk = if ((k : Int) = fr ∧ (kk : Int) = m) then bt else gt (frm X (0 + ((k : Nat) : Int).toNat * 1)) kk := by
  rw [gt_frmC _ _ _ hkk, gt_frmC _ _ _ hkk, gt_set (by omega)]
  by_cases hc : ((k : Int) = fr ∧ (kk : Int) = m)
  · rw [if_pos (by omega), if_pos hc]
  · rw [if_neg (by omega), if_neg hc, Nat.zero_add, Nat.mul_one]
theorem byte_get {X : List Int} {fr m : Int} {k : Nat} (hk : (k : Int) = fr) (h3 : 0 ≤ m) (h4 : m < 64) : gt X (fr * 64 + m).toNat = gt (frm X ((k : Nat) : Int).toNat) m.toNat := by
  rw [gt_frmC _ _ _ (by omega)]
  congr 1
  omega
theorem byte_setm {X : List Int} (hl : X.length = 16 * 64) {fr m bt : Int} {k : Nat} (hk : (k : Int) = fr) (h2 : fr < 16) (h3 : 0 ≤ m) (h4 : m < 64) : bt = gt (frm (X.set (fr * 64 + m).toNat bt) ((k : Nat) : Int).toNat) m.toNat := by
  rw [byte_set hl (by omega) (by omega) (by omega) h2 h3 h4, if_pos ⟨hk, by omega⟩]
/-- What stands behind so many parts of a sequence. -/
def rgt : Nat → Code → Code
  | 0, c => c
  | n + 1, .seq _ b => rgt n b
  | _, c => c
theorem rest_no (w : World) (st9 : Cl) (hst : st9.i ≤ 100 ∧ JI st9.s ∧ Ck st9.s ∧ bothOk st9.s st9.rc st9.rz) (st ad : Int) (W : Bool) (bt : Int) (hbt : 0 ≤ bt ∧ bt ≤ 255) (c1 p1' F1 p1 mr1 mb1 q1 B21 j1 bF bA : Nat) (fv : List Value) (fr : Value)
    (nE : ¬ dmaE st9.s st ad W = 0) (nX : (dmaJ st9.s st ad W bt).X = st9.s.X) :
    vc Try.prog w (List.map Ent.b []) tab 248 (rgt 11 (Try.f5.body.getD .skip)) (fun e env' L' => match e with
      | .ret => resK Try.prog w (List.map Ent.b []) L' [.tmp 12] env' (fun vs => Vc.Fin L' (fun y L' => y = .bool true ∧ L' = []) (tup vs))
      | .normal => resK Try.prog w (List.map Ent.b []) L' [.tmp 12] env' (fun vs => Vc.Fin L' (fun y L' => y = .bool true ∧ L' = []) (tup vs))
      | _ => False)
      [(2, .int .i64 st), (3, .int .i64 ad), (4, .bool W), (5, .int .u8 bt), (13, .bool true), (14, .pointer (some ⟨c1, 0, none⟩)), (17, fr), (21, .bool false), (22, .pointer (some ⟨bA, 0, none⟩))]
      [bothE c1 p1' p1 q1 j1, ramE p1' F1 16, frE F1 st9.s.X, iomE p1 mr1 mb1 (rcV st9.rc) st9.s.lost, maR mr1 st9.s.rk st9.s.R, maB mb1 st9.s.bk st9.s.B, rcE st9.rc, refE q1 B21 16, byE B21 st9.s.X, iomR j1 (RoL st9.s.R) (BoL st9.s.B) (rzV st9.rz) st9.s.lost, rzE st9.rz, ⟨bF, 56, fv⟩, ⟨bA, 60, befC []⟩] := by
  repeat' ((first | (show forceL _ _; fail) | (show forceL _ _; show forceL (_ :: _ :: _ :: _ :: _ :: _ :: _ :: _ :: _ :: _ :: _ :: _ :: _ :: (tailB _ _ ++ _)) _; refine (forceL_eq _ _).mpr ?_) | (show forceL _ _; show forceL (_ :: _ :: _ :: _ :: _ :: _ :: _ :: _ :: _ :: _ :: _ :: _ :: _ :: ((tailB _ _ ++ _) ++ _)) _; refine (forceL_eq _ _).mpr ?_) | (show forceL _ _; show forceL (_ :: _ :: _ :: _ :: _ :: _ :: _ :: _ :: _ :: _ :: _ :: _ :: _ :: tailB _ _) _; refine (forceL_eq _ _).mpr ?_) | skip); (conv => whnf); first
    | (show _ ∧ _; first | (simp only [nX] at hx) | (obtain ⟨rfl, rfl⟩ := hx; refine ⟨rfl, ?_⟩) | (obtain ⟨b, rfl, rfl⟩ := hx; refine ⟨rfl, ?_⟩) | (obtain ⟨b, c, rfl, rfl⟩ := hx; refine ⟨rfl, ?_⟩))
    | (show gsplit _ _ _; first | refine gsplit.neg (by rw [decide_eq_false nE]; rfl) ?_ | refine gsplit.nneg (congrArg (fun q => gt (frm _ q) _) (show ((k : Nat) : Int).toNat = 0 + ((k : Nat) : Int).toNat * 1 by omega)) ?_ | refine gsplit.tt ?_ | refine gsplit.ff ?_ | refine gsplit.dpos (by omega) ?_ | refine gsplit.dneg (by omega) ?_ | refine gsplit.npos (by omega) ?_ | refine gsplit.nneg (by omega) ?_ | refine gsplit.dec (fun hc => ?_) (fun hc => ?_) | refine gsplit.ndec (fun hc => ?_) (fun hc => ?_) | refine gsplit.eq (fun hc => ?_) (fun hc => ?_) | refine gsplit.neq (fun hc => ?_) (fun hc => ?_) | refine gsplit.mk (fun hb => ?_) (fun hb => ?_))
    | (show YQ _ _ _ _ _ _; first | refine qneb Try.underlying4 ?_ | refine YQ.load1 tabOk rfl 12 rfl (befC_at bs (by omega)) ?_ | refine YQ.loadB tabOk rfl (bs.length + 13) kk (cAt_of (show _ from tail_last _ _ _) rfl) ⟨by omega, by rw [frm_length (n := 16) (by first | exact hst.2.1.len | (rw [List.length_set]; exact hst.2.1.len)) (by omega)]; omega⟩ ?_ | refine YQ.loadB tabOk rfl ((0 + ((k : Nat) : Int).toNat * 1) + 13) kk (cAt_of (show _ from tail_in _ _ _ (by omega)) rfl) ⟨by omega, by rw [frm_length (n := 16) hst.2.1.len (by omega)]; omega⟩ ?_ | refine YQ.remN (by omega) ?_ | refine YQ.quoN (by omega) ?_ | refine YQ.len tabOk rfl ?_ | refine YQ.idx tabOk rfl (by omega) ?_ | refine YQ.idxA tabOk rfl (by omega) ?_ | refine YQ.sliceA tabOk rfl (by omega) (by omega) ?_ | refine YQ.sliceAll tabOk rfl ?_ | refine YQ.load1 tabOk rfl 0 rfl rfl ?_ | refine YQ.load1 tabOk rfl 1 rfl rfl ?_ | refine YQ.load1 tabOk rfl 2 rfl rfl ?_ | refine YQ.load1 tabOk rfl 3 rfl rfl ?_ | refine YQ.load1 tabOk rfl 4 rfl rfl ?_ | refine YQ.load1 tabOk rfl 5 rfl rfl ?_ | refine YQ.load1 tabOk rfl 6 rfl rfl ?_ | refine YQ.load1 tabOk rfl 7 rfl rfl ?_ | refine YQ.load1 tabOk rfl 8 rfl rfl ?_ | refine YQ.load1 tabOk rfl 9 rfl rfl ?_ | refine YQ.load1 tabOk rfl 10 rfl rfl ?_ | refine YQ.load1 tabOk rfl 11 rfl rfl ?_ | refine YQ.load1 tabOk rfl 12 rfl rfl ?_ | refine YQ.loadF tabOk rfl 0 rfl rfl ?_ | refine YQ.loadF tabOk rfl 1 rfl rfl ?_ | refine YQ.loadF tabOk rfl 2 rfl rfl ?_ | refine YQ.loadF tabOk rfl 3 rfl rfl ?_ | refine YQ.loadF tabOk rfl 4 rfl rfl ?_ | refine YQ.loadF tabOk rfl 5 rfl rfl ?_ | refine YQ.loadF tabOk rfl 6 rfl rfl ?_ | refine YQ.loadF tabOk rfl 7 rfl rfl ?_ | refine YQ.loadF tabOk rfl 8 rfl rfl ?_ | refine YQ.loadF tabOk rfl 9 rfl rfl ?_ | refine YQ.loadF tabOk rfl 10 rfl rfl ?_ | refine YQ.loadF tabOk rfl 11 rfl rfl ?_ | refine YQ.loadF tabOk rfl 12 rfl rfl ?_ | refine YQ.loadA tabOk rfl 0 rfl rfl rfl ?_ | refine YQ.loadA tabOk rfl 1 rfl rfl rfl ?_ | refine YQ.loadA tabOk rfl 2 rfl rfl rfl ?_ | refine YQ.loadA tabOk rfl 3 rfl rfl rfl ?_ | refine YQ.loadA tabOk rfl 4 rfl rfl rfl ?_ | refine YQ.loadA tabOk rfl 5 rfl rfl rfl ?_ | refine YQ.loadA tabOk rfl 6 rfl rfl rfl ?_ | refine YQ.loadA tabOk rfl 7 rfl rfl rfl ?_ | refine YQ.loadA tabOk rfl 8 rfl rfl rfl ?_ | refine YQ.loadA tabOk rfl 9 rfl rfl rfl ?_ | refine YQ.loadA tabOk rfl 10 rfl rfl rfl ?_ | refine YQ.loadA tabOk rfl 11 rfl rfl rfl ?_ | refine YQ.loadA tabOk rfl 12 rfl rfl rfl ?_ | refine YQ.build tabOk rfl rfl rfl ?_ | refine YQ.eqF tabOk rfl rfl rfl ?_ | refine YQ.neF tabOk rfl rfl rfl ?_)
    | (show YC _ _ _ _ _ _ _; first | refine YC.conR [1, 2] _ rfl rfl (fun w hw0 hw => frame_ok p1' F1 16 (by omega) st9.s.X hst.2.1.len bs.length (by unfold thereP; omega) w hw) (fun x L' hx => ?_) | refine YC.conR [3, 4, 5, 1, 2, 6] _ rfl rfl (fun w hw0 hw => dma_con2 p1 mr1 mb1 p1' F1 st9.s hst.2.1 st ad _ bt hbt st9.rc hst.2.2.2.1 w hw) (fun x L' hx => ?_) | refine YC.conR [1, 2] _ rfl rfl (fun w hw0 hw => frame_ok p1' F1 16 (by omega) _ (by first | exact hst.2.1.len | (rw [List.length_set]; exact hst.2.1.len)) k (by unfold thereP; omega) w hw) (fun x L' hx => ?_))
    | (show YU _ _ _ _ _ _ _ _; first | refine YU.store1 tabOk rfl rfl 12 rfl (by simp [befC]; omega) ?_ | refine YU.store1L tabOk rfl rfl 0 rfl rfl ?_ | refine YU.store1L tabOk rfl rfl 1 rfl rfl ?_ | refine YU.store1L tabOk rfl rfl 2 rfl rfl ?_ | refine YU.store1L tabOk rfl rfl 3 rfl rfl ?_ | refine YU.store1L tabOk rfl rfl 4 rfl rfl ?_ | refine YU.store1L tabOk rfl rfl 5 rfl rfl ?_ | refine YU.store1L tabOk rfl rfl 6 rfl rfl ?_ | refine YU.store1L tabOk rfl rfl 7 rfl rfl ?_ | refine YU.store1L tabOk rfl rfl 8 rfl rfl ?_ | refine YU.store1L tabOk rfl rfl 9 rfl rfl ?_ | refine YU.store1L tabOk rfl rfl 10 rfl rfl ?_ | refine YU.store1L tabOk rfl rfl 11 rfl rfl ?_ | refine YU.store1L tabOk rfl rfl 12 rfl rfl ?_ | refine YU.storeF tabOk rfl rfl rfl 0 rfl rfl ?_ | refine YU.storeF tabOk rfl rfl rfl 1 rfl rfl ?_ | refine YU.storeF tabOk rfl rfl rfl 2 rfl rfl ?_ | refine YU.storeF tabOk rfl rfl rfl 3 rfl rfl ?_ | refine YU.storeF tabOk rfl rfl rfl 4 rfl rfl ?_ | refine YU.storeF tabOk rfl rfl rfl 5 rfl rfl ?_ | refine YU.storeF tabOk rfl rfl rfl 6 rfl rfl ?_ | refine YU.storeF tabOk rfl rfl rfl 7 rfl rfl ?_ | refine YU.storeF tabOk rfl rfl rfl 8 rfl rfl ?_ | refine YU.storeF tabOk rfl rfl rfl 9 rfl rfl ?_ | refine YU.storeF tabOk rfl rfl rfl 10 rfl rfl ?_ | refine YU.storeF tabOk rfl rfl rfl 11 rfl rfl ?_ | refine YU.storeF tabOk rfl rfl rfl 12 rfl rfl ?_ | refine YU.storeAL tabOk rfl rfl rfl 0 rfl rfl ?_ | refine YU.storeAL tabOk rfl rfl rfl 1 rfl rfl ?_ | refine YU.storeAL tabOk rfl rfl rfl 2 rfl rfl ?_ | refine YU.storeAL tabOk rfl rfl rfl 3 rfl rfl ?_ | refine YU.storeAL tabOk rfl rfl rfl 4 rfl rfl ?_ | refine YU.storeAL tabOk rfl rfl rfl 5 rfl rfl ?_ | refine YU.storeAL tabOk rfl rfl rfl 6 rfl rfl ?_ | refine YU.storeAL tabOk rfl rfl rfl 7 rfl rfl ?_ | refine YU.storeAL tabOk rfl rfl rfl 8 rfl rfl ?_ | refine YU.storeAL tabOk rfl rfl rfl 9 rfl rfl ?_ | refine YU.storeAL tabOk rfl rfl rfl 10 rfl rfl ?_ | refine YU.storeAL tabOk rfl rfl rfl 11 rfl rfl ?_ | refine YU.storeAL tabOk rfl rfl rfl 12 rfl rfl ?_)
    | (show Wr _ _ _; first | refine Wr.i64 (by omega) ?_ | refine Wr.u8 (by omega) ?_ | refine Wr.u16 (by omega) ?_ | refine Wr.u32 (by omega) ?_)
    | (show BIf _ _ _; first | refine BIf.pos rfl ?_ | refine BIf.neg rfl ?_)
    | (show Lp _ _ _ _ _; first | refine Lp.mk (α := List Nat) [23] [2, 3, 4, 5, 13, 14, 17, 21, 22] _ (fun bs => [.int .i64 bs.length]) (fun bs => [bothE c1 p1' p1 q1 j1, ramE p1' F1 16, frE F1 st9.s.X, iomE p1 mr1 mb1 (rcV st9.rc) st9.s.lost, maR mr1 st9.s.rk st9.s.R, maB mb1 st9.s.bk st9.s.B, rcE st9.rc, refE q1 B21 16, byE B21 st9.s.X, iomR j1 (RoL st9.s.R) (BoL st9.s.B) (rzV st9.rz) st9.s.lost, rzE st9.rz, ⟨bF, 56, fv⟩, ⟨bA, 60, befC bs⟩] ++ tailB st9.s.X bs) (fun bs => bs.length ≤ 16) (fun bs => 16 - bs.length) rfl rfl [] (by simp) rfl ⟨_, rfl⟩ (fun bs hbs => ?_) | refine Lp.mkK (α := Nat) [28] [3, 4, 5, 13, 14, 17, 21, 22, 26] _ (fun k => [.int .i64 k]) (fun k => k ≤ 16) (fun k => 16 - k) rfl rfl 0 (by omega) rfl (fun k hk => ?_) | refine Lp.mkK (α := Nat) [31] [3, 4, 5, 13, 14, 17, 21, 22, 26, 28, 29] _ (fun kk => [.int .i64 kk]) (fun kk => kk ≤ 64) (fun kk => 64 - kk) rfl rfl 0 (by omega) rfl (fun kk hkk => ?_))
    | (show Dr _ _ _ _ _ _ _ _ _; first | (show Dr _ _ _ _ _ (Array.toList #[⟨some 145, _, _, _, _, _⟩, _, _, _, _, _, _, _, _, _, _, _, _, _, _, _, _, _]) _ _ _; refine Dr.mp 12 (.one 12 (.one 13 (.take 14 (.take 15 (.one 16 (.one 17 .done)))))) (by kernel_rfl) ?_) | refine Dr.all (by kernel_rfl) ?_)
    | (show Fork _ _; first | refine Fork.mk ?_ ?_)
    | (show Vc.Fin _ _ _; first | refine Fin.take 0 (And.intro ?_ rfl))
    | (refine ⟨bs ++ [b], by simp; omega, by simp; omega, (by show some [Value.int IntKind.i64 ((bs.length : Int) + 1)] = some [Value.int IntKind.i64 (((bs ++ [b]).length : Nat) : Int)]; rw [List.length_append]; rfl), ⟨[], ?_⟩⟩; rw [List.append_nil, tailB_step, ← befC_set bs b (by omega)]; have q2 : ((bs.length : Nat) : Int).toNat = bs.length := Int.toNat_natCast _; simp only [q2, Nat.zero_add, Nat.mul_one]; rfl)
    | refine ⟨kk + 1, by omega, by omega, rfl, ⟨[], (List.append_nil _).symm⟩⟩
    | refine ⟨k + 1, by omega, by omega, rfl, ⟨_, rfl⟩⟩
    | exact (rfl : tup [Value.bool true] = Value.bool true)
    | intro b)
end Go.Proofs.Ytggbhokhibfdmaa
