/- 'viceroylaw01.RamBack' and 'viceroylaw01.RamHalves' answer true at every input. Conditions: none beside the rows' own. -/
import Derived.Test.YtmpjdoodpkhmpaaRows
import Derived.Test.YtmpjdoodpkhmpaaAwake1
set_option linter.unusedVariables false
set_option linter.unusedSimpArgs false
set_option linter.unusedSectionVars false
set_option maxRecDepth 10000
set_option maxHeartbeats 4000000
namespace Go.Proofs.Ytmpjdoodpkhmpaa
open Vc Mem
section
variable {P : Program} {w0 : World} {I : List Nat} {T : Tab} {L : Hs}
theorem and255 {a : Int} (h : 0 ≤ a ∧ a ≤ 4294967295) : Vc.bits .and .u32 a 255 = a % 256 := by
  obtain ⟨n, rfl⟩ := Int.eq_ofNat_of_zero_le h.1
  have := bits_and (k := .u32) (show n < 2 ^ 32 by omega) (show 255 < 2 ^ 32 by omega)
  rw [show ((255 : Nat) : Int) = 255 from rfl] at this
  rw [this, wrap32', show n &&& 255 = n % 2 ^ 8 from Nat.and_two_pow_sub_one_eq_mod n 8]
  omega
theorem and65535 {a : Int} (h : 0 ≤ a ∧ a ≤ 4294967295) : Vc.bits .and .u32 a 65535 = a % 65536 := by
  obtain ⟨n, rfl⟩ := Int.eq_ofNat_of_zero_le h.1
  have := bits_and (k := .u32) (show n < 2 ^ 32 by omega) (show 65535 < 2 ^ 32 by omega)
  rw [show ((65535 : Nat) : Int) = 65535 from rfl] at this
  rw [this, wrap32', show n &&& 65535 = n % 2 ^ 16 from Nat.and_two_pow_sub_one_eq_mod n 16]
  omega
theorem YQ.and255 {t : TypeId} {x y : Operand} {a b : Int} {K : Value → Prop} (h : b = 255 ∧ 0 ≤ a ∧ a ≤ 4294967295) (k : K (.int .u32 (a % 256))) : YQ P w0 I L (.bin .and t x y (.int .u32 a) (.int .u32 b)) K :=
  YQ.bits (.inl rfl) (by rw [h.1, Proofs.Ytmpjdoodpkhmpaa.and255 h.2]; exact k)
theorem YQ.and65535 {t : TypeId} {x y : Operand} {a b : Int} {K : Value → Prop} (h : b = 65535 ∧ 0 ≤ a ∧ a ≤ 4294967295) (k : K (.int .u32 (a % 65536))) : YQ P w0 I L (.bin .and t x y (.int .u32 a) (.int .u32 b)) K :=
  YQ.bits (.inl rfl) (by rw [h.1, Proofs.Ytmpjdoodpkhmpaa.and65535 h.2]; exact k)
theorem YQ.shl1 {t : TypeId} {x y : Operand} {ky : IntKind} {b : Int} {K : Value → Prop} (j : Nat) (d : Int) (h : b = 8 * j) (hj : j ≤ 3) (hd : (2 : Int) ^ (8 * j) = d) (k : K (.int .u32 d)) : YQ P w0 I L (.bin .shl t x y (.int .u32 1) (.int ky b)) K := by
  subst h
  refine YQ.shl (by omega) ?_
  rw [show ((8 * (j : Int)).toNat) = 8 * j by omega, show min (8 * j) IntKind.u32.bits = 8 * j from Nat.min_eq_left (by show 8 * j ≤ 32; omega), hd, Int.one_mul]
  refine Wr.u32 ?_ k
  have : j = 0 ∨ j = 1 ∨ j = 2 ∨ j = 3 := by omega
  rcases this with rfl | rfl | rfl | rfl <;> (subst hd; decide)
end
/-- A byte of what was stored. -/
theorem byte_st {xs : List Int} {a : Nat} {s w : Int} (hs : s = 1 ∨ s = 2 ∨ s = 4) (hr : a + s.toNat ≤ xs.length) (j : Nat) (hj : j < s.toNat) : gt (stL xs a s w) (a + j) = w / (256 : Int) ^ j % 256 := by
  rw [gt_st hs hr, if_pos (by omega), Nat.add_sub_cancel_left]
theorem ld_st {xs : List Int} {a : Nat} {s w : Int} (hw : 0 ≤ w ∧ w ≤ 4294967295) (hs : s = 1 ∨ s = 2 ∨ s = 4) (hr : a + s.toNat ≤ xs.length) : ldV (stL xs a s w) a s = if s = 1 then w % 256 else if s = 2 then w % 65536 else w := by
  have b0 := byte_st (w := w) hs hr 0 (by rcases hs with rfl | rfl | rfl <;> decide)
  rcases hs with rfl | rfl | rfl
  · simp only [ldV, if_true]
    rw [Nat.add_zero, Int.pow_zero] at b0
    rw [b0]
    omega
  · have b1 := byte_st (w := w) (.inr (.inl rfl)) hr 1 (by decide)
    simp only [ldV, show ¬ ((2 : Int) = 1) by omega, if_true, if_false]
    rw [Nat.add_zero, Int.pow_zero] at b0
    rw [b0, b1]
    omega
  · have b1 := byte_st (w := w) (.inr (.inr rfl)) hr 1 (by decide)
    have b2 := byte_st (w := w) (.inr (.inr rfl)) hr 2 (by decide)
    have b3 := byte_st (w := w) (.inr (.inr rfl)) hr 3 (by decide)
    simp only [ldV, show ¬ ((4 : Int) = 1) by omega, show ¬ ((4 : Int) = 2) by omega, if_false]
    rw [Nat.add_zero, Int.pow_zero] at b0
    rw [b0, b1, b2, b3]
    rw [show (256 : Int) ^ 1 = 256 from rfl, show (256 : Int) ^ 2 = 65536 from rfl, show (256 : Int) ^ 3 = 16777216 from rfl]
    omega
theorem ramBack_con (k a s v : Int) (hv : 0 ≤ v ∧ v ≤ 4294967295) (w : World) : Con Try.prog 8 [.int .i64 k, .int .i64 a, .int .i64 s, .int .u32 v] w [] (fun y L' => y = .bool true ∧ L' = []) := by
  by_cases hk : k < 1 ∨ 1024 < k
  · refine Con.of_vc tabOk 93 [.tmp 8] Try.func8 rfl Try.ntmps8 Try.results8 rfl (Own.nil' w) ?_
    repeat' ((conv => whnf); first
      | refine YC.conR [] [] rfl rfl (fun w _ _ => awake1_con w) (fun x L' hx => ?_)
      | refine YC.conR [] [] rfl rfl (fun w _ _ => ramNew_no k hk w) (fun x L' hx => ?_)
      | refine qeqp Try.underlying47 ?_
      | refine Fin.take 0 (And.intro ?_ rfl)
      | (obtain ⟨rfl, rfl⟩ := hx; refine ⟨rfl, ?_⟩)
      | (obtain ⟨b, rfl, rfl⟩ := hx; refine ⟨rfl, ?_⟩)
      | (obtain ⟨b, c, rfl, rfl⟩ := hx; refine ⟨rfl, ?_⟩)
      | refine gsplit.tt ?_
      | refine gsplit.ff ?_
      | refine gsplit.dpos (by omega) ?_
      | refine gsplit.dneg (by omega) ?_
      | refine gsplit.npos (by omega) ?_
      | refine gsplit.nneg (by omega) ?_
      | refine gsplit.dec (fun hc => ?_) (fun hc => ?_)
      | refine gsplit.ndec (fun hc => ?_) (fun hc => ?_)
      | refine BIf.pos rfl ?_
      | refine BIf.neg rfl ?_
      | refine Wr.i64 (by omega) ?_
      | refine Wr.u8 (by omega) ?_
      | refine Wr.u16 (by omega) ?_
      | refine Wr.u32 (by omega) ?_
      | refine YQ.remN (by omega) ?_
      | refine YQ.quoN (by omega) ?_
      | refine YQ.len tabOk rfl ?_
      | refine YQ.idx tabOk rfl (by omega) ?_
      | refine YQ.idxA tabOk rfl (by omega) ?_
      | refine YQ.sliceA tabOk rfl (by omega) (by omega) ?_
      | refine YQ.sliceAll tabOk rfl ?_
      | refine YQ.load1 tabOk rfl 0 rfl rfl ?_
      | refine YQ.load1 tabOk rfl 1 rfl rfl ?_
      | refine YQ.load1 tabOk rfl 2 rfl rfl ?_
      | refine YQ.load1 tabOk rfl 3 rfl rfl ?_
      | refine YQ.load1 tabOk rfl 4 rfl rfl ?_
      | refine YQ.load1 tabOk rfl 5 rfl rfl ?_
      | refine YQ.loadF tabOk rfl 0 rfl rfl ?_
      | refine YQ.loadF tabOk rfl 1 rfl rfl ?_
      | refine YQ.loadF tabOk rfl 2 rfl rfl ?_
      | refine YQ.loadF tabOk rfl 3 rfl rfl ?_
      | refine YQ.loadF tabOk rfl 4 rfl rfl ?_
      | refine YQ.loadF tabOk rfl 5 rfl rfl ?_
      | refine YQ.loadA tabOk rfl 0 rfl rfl rfl ?_
      | refine YQ.loadA tabOk rfl 1 rfl rfl rfl ?_
      | refine YQ.loadA tabOk rfl 2 rfl rfl rfl ?_
      | refine YQ.loadA tabOk rfl 3 rfl rfl rfl ?_
      | refine YQ.loadA tabOk rfl 4 rfl rfl rfl ?_
      | refine YU.store1L tabOk rfl rfl 0 rfl rfl ?_
      | refine YU.store1L tabOk rfl rfl 1 rfl rfl ?_
      | refine YU.store1L tabOk rfl rfl 2 rfl rfl ?_
      | refine YU.store1L tabOk rfl rfl 3 rfl rfl ?_
      | refine YU.store1L tabOk rfl rfl 4 rfl rfl ?_
      | refine YU.storeF tabOk rfl rfl rfl 0 rfl rfl ?_
      | refine YU.storeF tabOk rfl rfl rfl 1 rfl rfl ?_
      | refine YU.storeF tabOk rfl rfl rfl 2 rfl rfl ?_
      | refine YU.storeF tabOk rfl rfl rfl 3 rfl rfl ?_
      | refine YU.storeF tabOk rfl rfl rfl 4 rfl rfl ?_
      | refine YU.storeF tabOk rfl rfl rfl 5 rfl rfl ?_
      | refine YU.storeAL tabOk rfl rfl rfl 0 rfl rfl ?_
      | refine YU.storeAL tabOk rfl rfl rfl 1 rfl rfl ?_
      | refine YU.storeAL tabOk rfl rfl rfl 2 rfl rfl ?_
      | refine YU.storeAL tabOk rfl rfl rfl 3 rfl rfl ?_
      | refine YU.storeAL tabOk rfl rfl rfl 4 rfl rfl ?_
      | refine YQ.build tabOk rfl rfl rfl ?_
      | refine YQ.eqF tabOk rfl rfl rfl ?_
      | refine YQ.neF tabOk rfl rfl rfl ?_
      | refine gsplit.eq (fun hc => ?_) (fun hc => ?_)
      | refine gsplit.neq (fun hc => ?_) (fun hc => ?_)
      | refine Dr.all (by kernel_rfl) ?_
      | intro b)
    all_goals rfl
  obtain ⟨n, rfl⟩ := Int.eq_ofNat_of_zero_le (show 0 ≤ k by omega)
  have hn : 1 ≤ n ∧ n ≤ 1024 := by omega
  have hl : (List.replicate (n * 64) (0 : Int)).length = n * 64 := by simp
  have hX : By (storeL n (List.replicate (n * 64) 0) a s v) := (By.rep _).store _ _ _ _
  have hXl : (storeL n (List.replicate (n * 64) 0) a s v).length = n * 64 := by rw [storeL_length, hl]
  by_cases hb : bad n a s = 0
  · have hf := fine_of hb
    have hr := hf.room
    have hlo := hf.lo
    have hsz := hf.size
    have hr' : a.toNat + s.toNat ≤ (List.replicate (n * 64) (0 : Int)).length := by rw [hl]; omega
    have eX : storeL n (List.replicate (n * 64) 0) a s v = stL (List.replicate (n * 64) 0) a.toNat s v := if_pos hb
    have hld : loadE n (storeL n (List.replicate (n * 64) 0) a s v) a s = if s = 1 then v % 256 else if s = 2 then v % 65536 else v := by
      rw [eX, loadE, if_pos hb, ld_st hv hsz hr']
    have hbj : ∀ j : Int, 0 ≤ j → j < s → bad n (a + j) 1 = 0 := fun j h1 h2 => bad_of ⟨.inl rfl, by omega, by omega, by omega⟩
    have hlj : ∀ j : Int, 0 ≤ j → j < s → loadE n (storeL n (List.replicate (n * 64) 0) a s v) (a + j) 1 = v / (256 : Int) ^ j.toNat % 256 := by
      intro j h1 h2
      rw [loadE, if_pos (hbj j h1 h2), ldV, if_pos rfl, eX, show (a + j).toNat = a.toNat + j.toNat by omega, byte_st hsz hr' _ (by omega)]
    have b0 := hbj 0 (by omega) (by omega)
    have l0 := hlj 0 (by omega) (by omega)
    rw [show (256 : Int) ^ (0 : Int).toNat = 1 from rfl, Int.ediv_one] at l0
    rcases hsz with rfl | rfl | rfl
    · simp only [if_true] at hld
      refine Con.of_vc tabOk 93 [.tmp 8] Try.func8 rfl Try.ntmps8 Try.results8 rfl (Own.nil' w) ?_
      repeat' ((conv => whnf); first
        | refine YC.conR [] [] rfl rfl (fun w _ _ => awake1_con w) (fun x L' hx => ?_)
        | refine YC.conR [] [] rfl rfl (fun w _ _ => ramNew_ok (n : Int) n ⟨rfl, hn⟩ w) (fun x L' hx => ?_)
        | refine YC.conR [0, 1] _ rfl rfl (fun w hw0 hw => store_con _ _ n hn.2 _ hl a 1 v hv w hw) (fun x L' hx => ?_)
        | refine YC.conR [0, 1] _ rfl rfl (fun w hw0 hw => load_con _ _ n hn.2 _ hX hXl a 1 w hw) (fun x L' hx => ?_)
        | refine YC.conR [0, 1] _ rfl rfl (fun w hw0 hw => load_con _ _ n hn.2 _ hX hXl _ 1 w hw) (fun x L' hx => ?_)
        | (simp only [hb, hld] at hx)
        | (simp only [b0, l0] at hx)
        | refine Lp.rounds 6 ?_
        | refine YQ.shr0 (by omega) ?_
        | refine YQ.shl1 1 256 (by omega) (by omega) rfl ?_
        | refine YQ.and255 (by omega) ?_
        | refine qeqp Try.underlying47 ?_
        | refine Fin.take 0 (And.intro ?_ rfl)
        | (obtain ⟨rfl, rfl⟩ := hx; refine ⟨rfl, ?_⟩)
        | (obtain ⟨b, rfl, rfl⟩ := hx; refine ⟨rfl, ?_⟩)
        | (obtain ⟨b, c, rfl, rfl⟩ := hx; refine ⟨rfl, ?_⟩)
        | refine gsplit.tt ?_
        | refine gsplit.ff ?_
        | refine gsplit.dpos (by omega) ?_
        | refine gsplit.dneg (by omega) ?_
        | refine gsplit.npos (by omega) ?_
        | refine gsplit.nneg (by omega) ?_
        | refine gsplit.dec (fun hc => ?_) (fun hc => ?_)
        | refine gsplit.ndec (fun hc => ?_) (fun hc => ?_)
        | refine BIf.pos rfl ?_
        | refine BIf.neg rfl ?_
        | refine Wr.i64 (by omega) ?_
        | refine Wr.u8 (by omega) ?_
        | refine Wr.u16 (by omega) ?_
        | refine Wr.u32 (by omega) ?_
        | refine YQ.remN (by omega) ?_
        | refine YQ.quoN (by omega) ?_
        | refine YQ.len tabOk rfl ?_
        | refine YQ.idx tabOk rfl (by omega) ?_
        | refine YQ.idxA tabOk rfl (by omega) ?_
        | refine YQ.sliceA tabOk rfl (by omega) (by omega) ?_
        | refine YQ.sliceAll tabOk rfl ?_
        | refine YQ.load1 tabOk rfl 0 rfl rfl ?_
        | refine YQ.load1 tabOk rfl 1 rfl rfl ?_
        | refine YQ.load1 tabOk rfl 2 rfl rfl ?_
        | refine YQ.load1 tabOk rfl 3 rfl rfl ?_
        | refine YQ.load1 tabOk rfl 4 rfl rfl ?_
        | refine YQ.load1 tabOk rfl 5 rfl rfl ?_
        | refine YQ.loadF tabOk rfl 0 rfl rfl ?_
        | refine YQ.loadF tabOk rfl 1 rfl rfl ?_
        | refine YQ.loadF tabOk rfl 2 rfl rfl ?_
        | refine YQ.loadF tabOk rfl 3 rfl rfl ?_
        | refine YQ.loadF tabOk rfl 4 rfl rfl ?_
        | refine YQ.loadF tabOk rfl 5 rfl rfl ?_
        | refine YQ.loadA tabOk rfl 0 rfl rfl rfl ?_
        | refine YQ.loadA tabOk rfl 1 rfl rfl rfl ?_
        | refine YQ.loadA tabOk rfl 2 rfl rfl rfl ?_
        | refine YQ.loadA tabOk rfl 3 rfl rfl rfl ?_
        | refine YQ.loadA tabOk rfl 4 rfl rfl rfl ?_
        | refine YU.store1L tabOk rfl rfl 0 rfl rfl ?_
        | refine YU.store1L tabOk rfl rfl 1 rfl rfl ?_
        | refine YU.store1L tabOk rfl rfl 2 rfl rfl ?_
        | refine YU.store1L tabOk rfl rfl 3 rfl rfl ?_
        | refine YU.store1L tabOk rfl rfl 4 rfl rfl ?_
        | refine YU.storeF tabOk rfl rfl rfl 0 rfl rfl ?_
        | refine YU.storeF tabOk rfl rfl rfl 1 rfl rfl ?_
        | refine YU.storeF tabOk rfl rfl rfl 2 rfl rfl ?_
        | refine YU.storeF tabOk rfl rfl rfl 3 rfl rfl ?_
        | refine YU.storeF tabOk rfl rfl rfl 4 rfl rfl ?_
        | refine YU.storeF tabOk rfl rfl rfl 5 rfl rfl ?_
        | refine YU.storeAL tabOk rfl rfl rfl 0 rfl rfl ?_
        | refine YU.storeAL tabOk rfl rfl rfl 1 rfl rfl ?_
        | refine YU.storeAL tabOk rfl rfl rfl 2 rfl rfl ?_
        | refine YU.storeAL tabOk rfl rfl rfl 3 rfl rfl ?_
        | refine YU.storeAL tabOk rfl rfl rfl 4 rfl rfl ?_
        | refine YQ.build tabOk rfl rfl rfl ?_
        | refine YQ.eqF tabOk rfl rfl rfl ?_
        | refine YQ.neF tabOk rfl rfl rfl ?_
        | refine gsplit.eq (fun hc => ?_) (fun hc => ?_)
        | refine gsplit.neq (fun hc => ?_) (fun hc => ?_)
        | refine Dr.all (by kernel_rfl) ?_
        | intro b)
      all_goals first
        | rfl
        | (show Value.bool _ = Value.bool _; congr 1; simp; done)
        | contradiction
        | (exfalso; omega)
    · simp only [show ¬ ((2 : Int) = 1) by omega, if_true, if_false] at hld
      have b1 := hbj (0 + 1) (by omega) (by omega)
      have l1 := hlj (0 + 1) (by omega) (by omega)
      rw [show (256 : Int) ^ (0 + 1 : Int).toNat = 256 from rfl] at l1
      refine Con.of_vc tabOk 93 [.tmp 8] Try.func8 rfl Try.ntmps8 Try.results8 rfl (Own.nil' w) ?_
      repeat' ((conv => whnf); first
        | refine YC.conR [] [] rfl rfl (fun w _ _ => awake1_con w) (fun x L' hx => ?_)
        | refine YC.conR [] [] rfl rfl (fun w _ _ => ramNew_ok (n : Int) n ⟨rfl, hn⟩ w) (fun x L' hx => ?_)
        | refine YC.conR [0, 1] _ rfl rfl (fun w hw0 hw => store_con _ _ n hn.2 _ hl a 2 v hv w hw) (fun x L' hx => ?_)
        | refine YC.conR [0, 1] _ rfl rfl (fun w hw0 hw => load_con _ _ n hn.2 _ hX hXl a 2 w hw) (fun x L' hx => ?_)
        | refine YC.conR [0, 1] _ rfl rfl (fun w hw0 hw => load_con _ _ n hn.2 _ hX hXl _ 1 w hw) (fun x L' hx => ?_)
        | (simp only [hb, hld] at hx)
        | (simp only [b0, l0, b1, l1] at hx)
        | refine Lp.rounds 6 ?_
        | refine YQ.shr0 (by omega) ?_
        | refine YQ.shrD 1 256 (by omega) (by omega) rfl ?_
        | refine YQ.shl1 2 65536 (by omega) (by omega) rfl ?_
        | refine YQ.and255 (by omega) ?_
        | refine YQ.and65535 (by omega) ?_
        | refine qeqp Try.underlying47 ?_
        | refine Fin.take 0 (And.intro ?_ rfl)
        | (obtain ⟨rfl, rfl⟩ := hx; refine ⟨rfl, ?_⟩)
        | (obtain ⟨b, rfl, rfl⟩ := hx; refine ⟨rfl, ?_⟩)
        | (obtain ⟨b, c, rfl, rfl⟩ := hx; refine ⟨rfl, ?_⟩)
        | refine gsplit.tt ?_
        | refine gsplit.ff ?_
        | refine gsplit.dpos (by omega) ?_
        | refine gsplit.dneg (by omega) ?_
        | refine gsplit.npos (by omega) ?_
        | refine gsplit.nneg (by omega) ?_
        | refine gsplit.dec (fun hc => ?_) (fun hc => ?_)
        | refine gsplit.ndec (fun hc => ?_) (fun hc => ?_)
        | refine BIf.pos rfl ?_
        | refine BIf.neg rfl ?_
        | refine Wr.i64 (by omega) ?_
        | refine Wr.u8 (by omega) ?_
        | refine Wr.u16 (by omega) ?_
        | refine Wr.u32 (by omega) ?_
        | refine YQ.remN (by omega) ?_
        | refine YQ.quoN (by omega) ?_
        | refine YQ.len tabOk rfl ?_
        | refine YQ.idx tabOk rfl (by omega) ?_
        | refine YQ.idxA tabOk rfl (by omega) ?_
        | refine YQ.sliceA tabOk rfl (by omega) (by omega) ?_
        | refine YQ.sliceAll tabOk rfl ?_
        | refine YQ.load1 tabOk rfl 0 rfl rfl ?_
        | refine YQ.load1 tabOk rfl 1 rfl rfl ?_
        | refine YQ.load1 tabOk rfl 2 rfl rfl ?_
        | refine YQ.load1 tabOk rfl 3 rfl rfl ?_
        | refine YQ.load1 tabOk rfl 4 rfl rfl ?_
        | refine YQ.load1 tabOk rfl 5 rfl rfl ?_
        | refine YQ.loadF tabOk rfl 0 rfl rfl ?_
        | refine YQ.loadF tabOk rfl 1 rfl rfl ?_
        | refine YQ.loadF tabOk rfl 2 rfl rfl ?_
        | refine YQ.loadF tabOk rfl 3 rfl rfl ?_
        | refine YQ.loadF tabOk rfl 4 rfl rfl ?_
        | refine YQ.loadF tabOk rfl 5 rfl rfl ?_
        | refine YQ.loadA tabOk rfl 0 rfl rfl rfl ?_
        | refine YQ.loadA tabOk rfl 1 rfl rfl rfl ?_
        | refine YQ.loadA tabOk rfl 2 rfl rfl rfl ?_
        | refine YQ.loadA tabOk rfl 3 rfl rfl rfl ?_
        | refine YQ.loadA tabOk rfl 4 rfl rfl rfl ?_
        | refine YU.store1L tabOk rfl rfl 0 rfl rfl ?_
        | refine YU.store1L tabOk rfl rfl 1 rfl rfl ?_
        | refine YU.store1L tabOk rfl rfl 2 rfl rfl ?_
        | refine YU.store1L tabOk rfl rfl 3 rfl rfl ?_
        | refine YU.store1L tabOk rfl rfl 4 rfl rfl ?_
        | refine YU.storeF tabOk rfl rfl rfl 0 rfl rfl ?_
        | refine YU.storeF tabOk rfl rfl rfl 1 rfl rfl ?_
        | refine YU.storeF tabOk rfl rfl rfl 2 rfl rfl ?_
        | refine YU.storeF tabOk rfl rfl rfl 3 rfl rfl ?_
        | refine YU.storeF tabOk rfl rfl rfl 4 rfl rfl ?_
        | refine YU.storeF tabOk rfl rfl rfl 5 rfl rfl ?_
        | refine YU.storeAL tabOk rfl rfl rfl 0 rfl rfl ?_
        | refine YU.storeAL tabOk rfl rfl rfl 1 rfl rfl ?_
        | refine YU.storeAL tabOk rfl rfl rfl 2 rfl rfl ?_
        | refine YU.storeAL tabOk rfl rfl rfl 3 rfl rfl ?_
        | refine YU.storeAL tabOk rfl rfl rfl 4 rfl rfl ?_
        | refine YQ.build tabOk rfl rfl rfl ?_
        | refine YQ.eqF tabOk rfl rfl rfl ?_
        | refine YQ.neF tabOk rfl rfl rfl ?_
        | refine gsplit.eq (fun hc => ?_) (fun hc => ?_)
        | refine gsplit.neq (fun hc => ?_) (fun hc => ?_)
        | refine Dr.all (by kernel_rfl) ?_
        | intro b)
      all_goals first
        | rfl
        | (show Value.bool _ = Value.bool _; congr 1; simp; done)
        | contradiction
        | (exfalso; omega)
    · simp only [show ¬ ((4 : Int) = 1) by omega, show ¬ ((4 : Int) = 2) by omega, if_false] at hld
      have b1 := hbj (0 + 1) (by omega) (by omega)
      have l1 := hlj (0 + 1) (by omega) (by omega)
      have b2 := hbj (0 + 1 + 1) (by omega) (by omega)
      have l2 := hlj (0 + 1 + 1) (by omega) (by omega)
      have b3 := hbj (0 + 1 + 1 + 1) (by omega) (by omega)
      have l3 := hlj (0 + 1 + 1 + 1) (by omega) (by omega)
      rw [show (256 : Int) ^ (0 + 1 : Int).toNat = 256 from rfl] at l1
      rw [show (256 : Int) ^ (0 + 1 + 1 : Int).toNat = 65536 from rfl] at l2
      rw [show (256 : Int) ^ (0 + 1 + 1 + 1 : Int).toNat = 16777216 from rfl] at l3
      refine Con.of_vc tabOk 93 [.tmp 8] Try.func8 rfl Try.ntmps8 Try.results8 rfl (Own.nil' w) ?_
      repeat' ((conv => whnf); first
        | refine YC.conR [] [] rfl rfl (fun w _ _ => awake1_con w) (fun x L' hx => ?_)
        | refine YC.conR [] [] rfl rfl (fun w _ _ => ramNew_ok (n : Int) n ⟨rfl, hn⟩ w) (fun x L' hx => ?_)
        | refine YC.conR [0, 1] _ rfl rfl (fun w hw0 hw => store_con _ _ n hn.2 _ hl a 4 v hv w hw) (fun x L' hx => ?_)
        | refine YC.conR [0, 1] _ rfl rfl (fun w hw0 hw => load_con _ _ n hn.2 _ hX hXl a 4 w hw) (fun x L' hx => ?_)
        | refine YC.conR [0, 1] _ rfl rfl (fun w hw0 hw => load_con _ _ n hn.2 _ hX hXl _ 1 w hw) (fun x L' hx => ?_)
        | (simp only [hb, hld] at hx)
        | (simp only [b0, l0, b1, l1, b2, l2, b3, l3] at hx)
        | refine Lp.rounds 6 ?_
        | refine YQ.shr0 (by omega) ?_
        | refine YQ.shrD 1 256 (by omega) (by omega) rfl ?_
        | refine YQ.shrD 2 65536 (by omega) (by omega) rfl ?_
        | refine YQ.shrD 3 16777216 (by omega) (by omega) rfl ?_
        | refine YQ.and255 (by omega) ?_
        | refine qeqp Try.underlying47 ?_
        | refine Fin.take 0 (And.intro ?_ rfl)
        | (obtain ⟨rfl, rfl⟩ := hx; refine ⟨rfl, ?_⟩)
        | (obtain ⟨b, rfl, rfl⟩ := hx; refine ⟨rfl, ?_⟩)
        | (obtain ⟨b, c, rfl, rfl⟩ := hx; refine ⟨rfl, ?_⟩)
        | refine gsplit.tt ?_
        | refine gsplit.ff ?_
        | refine gsplit.dpos (by omega) ?_
        | refine gsplit.dneg (by omega) ?_
        | refine gsplit.npos (by omega) ?_
        | refine gsplit.nneg (by omega) ?_
        | refine gsplit.dec (fun hc => ?_) (fun hc => ?_)
        | refine gsplit.ndec (fun hc => ?_) (fun hc => ?_)
        | refine BIf.pos rfl ?_
        | refine BIf.neg rfl ?_
        | refine Wr.i64 (by omega) ?_
        | refine Wr.u8 (by omega) ?_
        | refine Wr.u16 (by omega) ?_
        | refine Wr.u32 (by omega) ?_
        | refine YQ.remN (by omega) ?_
        | refine YQ.quoN (by omega) ?_
        | refine YQ.len tabOk rfl ?_
        | refine YQ.idx tabOk rfl (by omega) ?_
        | refine YQ.idxA tabOk rfl (by omega) ?_
        | refine YQ.sliceA tabOk rfl (by omega) (by omega) ?_
        | refine YQ.sliceAll tabOk rfl ?_
        | refine YQ.load1 tabOk rfl 0 rfl rfl ?_
        | refine YQ.load1 tabOk rfl 1 rfl rfl ?_
        | refine YQ.load1 tabOk rfl 2 rfl rfl ?_
        | refine YQ.load1 tabOk rfl 3 rfl rfl ?_
        | refine YQ.load1 tabOk rfl 4 rfl rfl ?_
        | refine YQ.load1 tabOk rfl 5 rfl rfl ?_
        | refine YQ.loadF tabOk rfl 0 rfl rfl ?_
        | refine YQ.loadF tabOk rfl 1 rfl rfl ?_
        | refine YQ.loadF tabOk rfl 2 rfl rfl ?_
        | refine YQ.loadF tabOk rfl 3 rfl rfl ?_
        | refine YQ.loadF tabOk rfl 4 rfl rfl ?_
        | refine YQ.loadF tabOk rfl 5 rfl rfl ?_
        | refine YQ.loadA tabOk rfl 0 rfl rfl rfl ?_
        | refine YQ.loadA tabOk rfl 1 rfl rfl rfl ?_
        | refine YQ.loadA tabOk rfl 2 rfl rfl rfl ?_
        | refine YQ.loadA tabOk rfl 3 rfl rfl rfl ?_
        | refine YQ.loadA tabOk rfl 4 rfl rfl rfl ?_
        | refine YU.store1L tabOk rfl rfl 0 rfl rfl ?_
        | refine YU.store1L tabOk rfl rfl 1 rfl rfl ?_
        | refine YU.store1L tabOk rfl rfl 2 rfl rfl ?_
        | refine YU.store1L tabOk rfl rfl 3 rfl rfl ?_
        | refine YU.store1L tabOk rfl rfl 4 rfl rfl ?_
        | refine YU.storeF tabOk rfl rfl rfl 0 rfl rfl ?_
        | refine YU.storeF tabOk rfl rfl rfl 1 rfl rfl ?_
        | refine YU.storeF tabOk rfl rfl rfl 2 rfl rfl ?_
        | refine YU.storeF tabOk rfl rfl rfl 3 rfl rfl ?_
        | refine YU.storeF tabOk rfl rfl rfl 4 rfl rfl ?_
        | refine YU.storeF tabOk rfl rfl rfl 5 rfl rfl ?_
        | refine YU.storeAL tabOk rfl rfl rfl 0 rfl rfl ?_
        | refine YU.storeAL tabOk rfl rfl rfl 1 rfl rfl ?_
        | refine YU.storeAL tabOk rfl rfl rfl 2 rfl rfl ?_
        | refine YU.storeAL tabOk rfl rfl rfl 3 rfl rfl ?_
        | refine YU.storeAL tabOk rfl rfl rfl 4 rfl rfl ?_
        | refine YQ.build tabOk rfl rfl rfl ?_
        | refine YQ.eqF tabOk rfl rfl rfl ?_
        | refine YQ.neF tabOk rfl rfl rfl ?_
        | refine gsplit.eq (fun hc => ?_) (fun hc => ?_)
        | refine gsplit.neq (fun hc => ?_) (fun hc => ?_)
        | refine Dr.all (by kernel_rfl) ?_
        | intro b)
      all_goals first
        | rfl
        | (show Value.bool _ = Value.bool _; congr 1; simp; done)
        | contradiction
        | (exfalso; omega)
  · have e1 : storeL n (List.replicate (n * 64) 0) a s v = List.replicate (n * 64) 0 := if_neg hb
    have e2 : loadE n (List.replicate (n * 64) 0) a s = 0 := if_neg hb
    refine Con.of_vc tabOk 93 [.tmp 8] Try.func8 rfl Try.ntmps8 Try.results8 rfl (Own.nil' w) ?_
    repeat' ((conv => whnf); first
      | refine YC.conR [] [] rfl rfl (fun w _ _ => awake1_con w) (fun x L' hx => ?_)
      | refine YC.conR [] [] rfl rfl (fun w _ _ => ramNew_ok (n : Int) n ⟨rfl, hn⟩ w) (fun x L' hx => ?_)
      | refine YC.conR [0, 1] _ rfl rfl (fun w hw0 hw => store_con _ _ n hn.2 _ hl a s v hv w hw) (fun x L' hx => ?_)
      | refine YC.conR [0, 1] _ rfl rfl (fun w hw0 hw => load_con _ _ n hn.2 _ (By.rep _) hl a s w hw) (fun x L' hx => ?_)
      | (simp only [e1, e2] at hx)
      | refine qeqp Try.underlying47 ?_
      | refine Fin.take 0 (And.intro ?_ rfl)
      | (obtain ⟨rfl, rfl⟩ := hx; refine ⟨rfl, ?_⟩)
      | (obtain ⟨b, rfl, rfl⟩ := hx; refine ⟨rfl, ?_⟩)
      | (obtain ⟨b, c, rfl, rfl⟩ := hx; refine ⟨rfl, ?_⟩)
      | refine gsplit.tt ?_
      | refine gsplit.ff ?_
      | refine gsplit.dpos (by omega) ?_
      | refine gsplit.dneg (by omega) ?_
      | refine gsplit.npos (by omega) ?_
      | refine gsplit.nneg (by omega) ?_
      | refine gsplit.dec (fun hc => ?_) (fun hc => ?_)
      | refine gsplit.ndec (fun hc => ?_) (fun hc => ?_)
      | refine BIf.pos rfl ?_
      | refine BIf.neg rfl ?_
      | refine Wr.i64 (by omega) ?_
      | refine Wr.u8 (by omega) ?_
      | refine Wr.u16 (by omega) ?_
      | refine Wr.u32 (by omega) ?_
      | refine YQ.remN (by omega) ?_
      | refine YQ.quoN (by omega) ?_
      | refine YQ.len tabOk rfl ?_
      | refine YQ.idx tabOk rfl (by omega) ?_
      | refine YQ.idxA tabOk rfl (by omega) ?_
      | refine YQ.sliceA tabOk rfl (by omega) (by omega) ?_
      | refine YQ.sliceAll tabOk rfl ?_
      | refine YQ.load1 tabOk rfl 0 rfl rfl ?_
      | refine YQ.load1 tabOk rfl 1 rfl rfl ?_
      | refine YQ.load1 tabOk rfl 2 rfl rfl ?_
      | refine YQ.load1 tabOk rfl 3 rfl rfl ?_
      | refine YQ.load1 tabOk rfl 4 rfl rfl ?_
      | refine YQ.load1 tabOk rfl 5 rfl rfl ?_
      | refine YQ.loadF tabOk rfl 0 rfl rfl ?_
      | refine YQ.loadF tabOk rfl 1 rfl rfl ?_
      | refine YQ.loadF tabOk rfl 2 rfl rfl ?_
      | refine YQ.loadF tabOk rfl 3 rfl rfl ?_
      | refine YQ.loadF tabOk rfl 4 rfl rfl ?_
      | refine YQ.loadF tabOk rfl 5 rfl rfl ?_
      | refine YQ.loadA tabOk rfl 0 rfl rfl rfl ?_
      | refine YQ.loadA tabOk rfl 1 rfl rfl rfl ?_
      | refine YQ.loadA tabOk rfl 2 rfl rfl rfl ?_
      | refine YQ.loadA tabOk rfl 3 rfl rfl rfl ?_
      | refine YQ.loadA tabOk rfl 4 rfl rfl rfl ?_
      | refine YU.store1L tabOk rfl rfl 0 rfl rfl ?_
      | refine YU.store1L tabOk rfl rfl 1 rfl rfl ?_
      | refine YU.store1L tabOk rfl rfl 2 rfl rfl ?_
      | refine YU.store1L tabOk rfl rfl 3 rfl rfl ?_
      | refine YU.store1L tabOk rfl rfl 4 rfl rfl ?_
      | refine YU.storeF tabOk rfl rfl rfl 0 rfl rfl ?_
      | refine YU.storeF tabOk rfl rfl rfl 1 rfl rfl ?_
      | refine YU.storeF tabOk rfl rfl rfl 2 rfl rfl ?_
      | refine YU.storeF tabOk rfl rfl rfl 3 rfl rfl ?_
      | refine YU.storeF tabOk rfl rfl rfl 4 rfl rfl ?_
      | refine YU.storeF tabOk rfl rfl rfl 5 rfl rfl ?_
      | refine YU.storeAL tabOk rfl rfl rfl 0 rfl rfl ?_
      | refine YU.storeAL tabOk rfl rfl rfl 1 rfl rfl ?_
      | refine YU.storeAL tabOk rfl rfl rfl 2 rfl rfl ?_
      | refine YU.storeAL tabOk rfl rfl rfl 3 rfl rfl ?_
      | refine YU.storeAL tabOk rfl rfl rfl 4 rfl rfl ?_
      | refine YQ.build tabOk rfl rfl rfl ?_
      | refine YQ.eqF tabOk rfl rfl rfl ?_
      | refine YQ.neF tabOk rfl rfl rfl ?_
      | refine gsplit.eq (fun hc => ?_) (fun hc => ?_)
      | refine gsplit.neq (fun hc => ?_) (fun hc => ?_)
      | refine Dr.all (by kernel_rfl) ?_
      | intro b)
    all_goals first
      | rfl
      | (show Value.bool _ = Value.bool _; congr 1; simp; done)
      | contradiction
      | (exfalso; omega)
theorem same64 (xs ys : List Int) (hx : xs.length = 64) (hy : ys.length = 64) (a b : Option Addr) (ca cb : Nat) (w : World) (ha : Arr w 1 u8V a xs) (hb : Arr w 1 u8V b ys) : Con Try.prog 52 [.slice a 64 ca, .slice b 64 cb] w []
    (fun y L' => y = .bool (decide (xs = ys)) ∧ L' = []) := by
  have := same_bytes xs ys (by omega) a b ca cb w ha hb
  rwa [hx, hy] at this
theorem ramHalves_con (a v : Int) (hv : 0 ≤ v ∧ v ≤ 4294967295) (w : World) : Con Try.prog 9 [.int .i64 a, .int .u32 v] w [] (fun y L' => y = .bool true ∧ L' = []) := by
  by_cases hk : a < 0 ∨ 508 < a ∨ a % 4 ≠ 0
  · refine Con.of_vc tabOk 147 [.tmp 4] Try.func9 rfl Try.ntmps9 Try.results9 rfl (Own.nil' w) ?_
    repeat' ((conv => whnf); first
      | refine YC.conR [] [] rfl rfl (fun w _ _ => awake1_con w) (fun x L' hx => ?_)
      | refine YC.conR [] [] rfl rfl (fun w _ _ => ramNew_ok 8 8 (by omega) w) (fun x L' hx => ?_)
      | refine qeqp Try.underlying47 ?_
      | refine Fin.take 0 (And.intro ?_ rfl)
      | (obtain ⟨rfl, rfl⟩ := hx; refine ⟨rfl, ?_⟩)
      | (obtain ⟨b, rfl, rfl⟩ := hx; refine ⟨rfl, ?_⟩)
      | (obtain ⟨b, c, rfl, rfl⟩ := hx; refine ⟨rfl, ?_⟩)
      | refine gsplit.tt ?_
      | refine gsplit.ff ?_
      | refine gsplit.dpos (by omega) ?_
      | refine gsplit.dneg (by omega) ?_
      | refine gsplit.npos (by omega) ?_
      | refine gsplit.nneg (by omega) ?_
      | refine gsplit.dec (fun hc => ?_) (fun hc => ?_)
      | refine gsplit.ndec (fun hc => ?_) (fun hc => ?_)
      | refine BIf.pos rfl ?_
      | refine BIf.neg rfl ?_
      | refine Wr.i64 (by omega) ?_
      | refine Wr.u8 (by omega) ?_
      | refine Wr.u16 (by omega) ?_
      | refine Wr.u32 (by omega) ?_
      | refine YQ.remN (by omega) ?_
      | refine YQ.quoN (by omega) ?_
      | refine YQ.len tabOk rfl ?_
      | refine YQ.idx tabOk rfl (by omega) ?_
      | refine YQ.idxA tabOk rfl (by omega) ?_
      | refine YQ.sliceA tabOk rfl (by omega) (by omega) ?_
      | refine YQ.sliceAll tabOk rfl ?_
      | refine YQ.load1 tabOk rfl 0 rfl rfl ?_
      | refine YQ.load1 tabOk rfl 1 rfl rfl ?_
      | refine YQ.load1 tabOk rfl 2 rfl rfl ?_
      | refine YQ.load1 tabOk rfl 3 rfl rfl ?_
      | refine YQ.load1 tabOk rfl 4 rfl rfl ?_
      | refine YQ.load1 tabOk rfl 5 rfl rfl ?_
      | refine YQ.loadF tabOk rfl 0 rfl rfl ?_
      | refine YQ.loadF tabOk rfl 1 rfl rfl ?_
      | refine YQ.loadF tabOk rfl 2 rfl rfl ?_
      | refine YQ.loadF tabOk rfl 3 rfl rfl ?_
      | refine YQ.loadF tabOk rfl 4 rfl rfl ?_
      | refine YQ.loadF tabOk rfl 5 rfl rfl ?_
      | refine YQ.loadA tabOk rfl 0 rfl rfl rfl ?_
      | refine YQ.loadA tabOk rfl 1 rfl rfl rfl ?_
      | refine YQ.loadA tabOk rfl 2 rfl rfl rfl ?_
      | refine YQ.loadA tabOk rfl 3 rfl rfl rfl ?_
      | refine YQ.loadA tabOk rfl 4 rfl rfl rfl ?_
      | refine YU.store1L tabOk rfl rfl 0 rfl rfl ?_
      | refine YU.store1L tabOk rfl rfl 1 rfl rfl ?_
      | refine YU.store1L tabOk rfl rfl 2 rfl rfl ?_
      | refine YU.store1L tabOk rfl rfl 3 rfl rfl ?_
      | refine YU.store1L tabOk rfl rfl 4 rfl rfl ?_
      | refine YU.storeF tabOk rfl rfl rfl 0 rfl rfl ?_
      | refine YU.storeF tabOk rfl rfl rfl 1 rfl rfl ?_
      | refine YU.storeF tabOk rfl rfl rfl 2 rfl rfl ?_
      | refine YU.storeF tabOk rfl rfl rfl 3 rfl rfl ?_
      | refine YU.storeF tabOk rfl rfl rfl 4 rfl rfl ?_
      | refine YU.storeF tabOk rfl rfl rfl 5 rfl rfl ?_
      | refine YU.storeAL tabOk rfl rfl rfl 0 rfl rfl ?_
      | refine YU.storeAL tabOk rfl rfl rfl 1 rfl rfl ?_
      | refine YU.storeAL tabOk rfl rfl rfl 2 rfl rfl ?_
      | refine YU.storeAL tabOk rfl rfl rfl 3 rfl rfl ?_
      | refine YU.storeAL tabOk rfl rfl rfl 4 rfl rfl ?_
      | refine YQ.build tabOk rfl rfl rfl ?_
      | refine YQ.eqF tabOk rfl rfl rfl ?_
      | refine YQ.neF tabOk rfl rfl rfl ?_
      | refine gsplit.eq (fun hc => ?_) (fun hc => ?_)
      | refine gsplit.neq (fun hc => ?_) (fun hc => ?_)
      | refine Dr.all (by kernel_rfl) ?_
      | intro b)
    all_goals first
      | rfl
      | contradiction
      | (exfalso; omega)
  have hb4 : bad 8 a 4 = 0 := bad_of ⟨by omega, by omega, by omega, by omega⟩
  have hb2 : bad 8 a 2 = 0 := bad_of ⟨by omega, by omega, by omega, by omega⟩
  have hb3 : bad 8 (a + 2) 2 = 0 := bad_of ⟨by omega, by omega, by omega, by omega⟩
  have c0 : bad 8 (a + 0) 1 = 0 := bad_of ⟨by omega, by omega, by omega, by omega⟩
  have c1 : bad 8 (a + (0 + 1)) 1 = 0 := bad_of ⟨by omega, by omega, by omega, by omega⟩
  have c2 : bad 8 (a + (0 + 1 + 1)) 1 = 0 := bad_of ⟨by omega, by omega, by omega, by omega⟩
  have c3 : bad 8 (a + (0 + 1 + 1 + 1)) 1 = 0 := bad_of ⟨by omega, by omega, by omega, by omega⟩
  have hl : (List.replicate (8 * 64) (0 : Int)).length = 8 * 64 := List.length_replicate
  have ht : thereP 8 (a / 64) := by unfold thereP; omega
  have d3 : v / 65536 / 256 = v / 16777216 := by omega
  have eY : storeL 8 (storeL 8 (List.replicate (8 * 64) 0) a 2 v) (a + 2) 2 (v / 65536) = storeL 8 (List.replicate (8 * 64) 0) a 4 v := by
    simp only [storeL, hb4, hb2, hb3, if_true, stL, show ¬ ((2 : Int) = 1) by omega, show ¬ ((4 : Int) = 1) by omega, show ¬ ((4 : Int) = 2) by omega, if_false]
    rw [show (a + 2).toNat = a.toNat + 2 by omega, d3]
  have eZ : storeL 8 (storeL 8 (storeL 8 (storeL 8 (List.replicate (8 * 64) 0) (a + 0) 1 v) (a + (0 + 1)) 1 (v / 256)) (a + (0 + 1 + 1)) 1 (v / 65536)) (a + (0 + 1 + 1 + 1)) 1 (v / 16777216) = storeL 8 (List.replicate (8 * 64) 0) a 4 v := by
    simp only [storeL, hb4, c0, c1, c2, c3, if_true, stL, show ¬ ((4 : Int) = 1) by omega, show ¬ ((4 : Int) = 2) by omega, if_false]
    rw [show (a + 0).toNat = a.toNat by omega, show (a + (0 + 1)).toNat = a.toNat + 1 by omega, show (a + (0 + 1 + 1)).toNat = a.toNat + 2 by omega, show (a + (0 + 1 + 1 + 1)).toNat = a.toNat + 3 by omega]
  have hXl : (storeL 8 (List.replicate (8 * 64) 0) a 4 v).length = 8 * 64 := by rw [storeL_length, hl]
  have hfl : (frm (storeL 8 (List.replicate (8 * 64) 0) a 4 v) (a / 64).toNat).length = 64 := frm_length hXl (by omega)
  refine Con.of_vc tabOk 147 [.tmp 4] Try.func9 rfl Try.ntmps9 Try.results9 rfl (Own.nil' w) ?_
  repeat' ((conv => whnf); first
    | refine YC.conR [] [] rfl rfl (fun w _ _ => awake1_con w) (fun x L' hx => ?_)
    | refine YC.conR [] [] rfl rfl (fun w _ _ => ramNew_ok 8 8 (by omega) w) (fun x L' hx => ?_)
    | refine qeqp Try.underlying47 ?_
    | refine YC.conR [0, 1] _ rfl rfl (fun w hw0 hw => store_con _ _ 8 (by omega) _ (by first | exact hl | (simp only [storeL_length]; exact hl)) a 4 v hv w hw) (fun x L' hx => ?_)
    | refine YC.conR [2, 3] _ rfl rfl (fun w hw0 hw => store_con _ _ 8 (by omega) _ (by first | exact hl | (simp only [storeL_length]; exact hl)) a 2 v hv w hw) (fun x L' hx => ?_)
    | refine YC.conR [2, 3] _ rfl rfl (fun w hw0 hw => store_con _ _ 8 (by omega) _ (by first | exact hl | (simp only [storeL_length]; exact hl)) (a + 2) 2 (v / 65536) (by omega) w hw) (fun x L' hx => ?_)
    | refine YC.conR [4, 5] _ rfl rfl (fun w hw0 hw => store_con _ _ 8 (by omega) _ (by first | exact hl | (simp only [storeL_length]; exact hl)) _ 1 v hv w hw) (fun x L' hx => ?_)
    | refine YC.conR [4, 5] _ rfl rfl (fun w hw0 hw => store_con _ _ 8 (by omega) _ (by first | exact hl | (simp only [storeL_length]; exact hl)) _ 1 (v / 256) (by omega) w hw) (fun x L' hx => ?_)
    | refine YC.conR [4, 5] _ rfl rfl (fun w hw0 hw => store_con _ _ 8 (by omega) _ (by first | exact hl | (simp only [storeL_length]; exact hl)) _ 1 (v / 65536) (by omega) w hw) (fun x L' hx => ?_)
    | refine YC.conR [4, 5] _ rfl rfl (fun w hw0 hw => store_con _ _ 8 (by omega) _ (by first | exact hl | (simp only [storeL_length]; exact hl)) _ 1 (v / 16777216) (by omega) w hw) (fun x L' hx => ?_)
    | (simp only [hb4, hb2, hb3, c0, c1, c2, c3, eY] at hx)
    | (simp only [eZ] at hx)
    | refine Lp.rounds 6 ?_
    | refine YQ.shr0 (by omega) ?_
    | refine YQ.shrD 1 256 (by omega) (by omega) rfl ?_
    | refine YQ.shrD 2 65536 (by omega) (by omega) rfl ?_
    | refine YQ.shrD 3 16777216 (by omega) (by omega) rfl ?_
    | refine YC.conR [0, 1] _ rfl rfl (fun w hw0 hw => frame_ok _ _ 8 (by omega) _ hXl (a / 64) ht w hw) (fun x L' hx => ?_)
    | refine YC.conR [2, 3] _ rfl rfl (fun w hw0 hw => frame_ok _ _ 8 (by omega) _ hXl (a / 64) ht w hw) (fun x L' hx => ?_)
    | refine YC.conR [4, 5] _ rfl rfl (fun w hw0 hw => frame_ok _ _ 8 (by omega) _ hXl (a / 64) ht w hw) (fun x L' hx => ?_)
    | refine YC.conR [] [] rfl rfl (fun w hw0 _ => same64 _ _ hfl hfl _ _ _ _ w (hw0.bytes 6 rfl) (hw0.bytes 7 rfl)) (fun x L' hx => ?_)
    | refine YC.conR [] [] rfl rfl (fun w hw0 _ => same64 _ _ hfl hfl _ _ _ _ w (hw0.bytes 6 rfl) (hw0.bytes 8 rfl)) (fun x L' hx => ?_)
    | refine Fin.take 0 (And.intro ?_ rfl)
    | (obtain ⟨rfl, rfl⟩ := hx; refine ⟨rfl, ?_⟩)
    | (obtain ⟨b, rfl, rfl⟩ := hx; refine ⟨rfl, ?_⟩)
    | (obtain ⟨b, c, rfl, rfl⟩ := hx; refine ⟨rfl, ?_⟩)
    | refine gsplit.tt ?_
    | refine gsplit.ff ?_
    | refine gsplit.dpos (by omega) ?_
    | refine gsplit.dneg (by omega) ?_
    | refine gsplit.npos (by omega) ?_
    | refine gsplit.nneg (by omega) ?_
    | refine gsplit.dec (fun hc => ?_) (fun hc => ?_)
    | refine gsplit.ndec (fun hc => ?_) (fun hc => ?_)
    | refine BIf.pos rfl ?_
    | refine BIf.neg rfl ?_
    | refine Wr.i64 (by omega) ?_
    | refine Wr.u8 (by omega) ?_
    | refine Wr.u16 (by omega) ?_
    | refine Wr.u32 (by omega) ?_
    | refine YQ.remN (by omega) ?_
    | refine YQ.quoN (by omega) ?_
    | refine YQ.len tabOk rfl ?_
    | refine YQ.idx tabOk rfl (by omega) ?_
    | refine YQ.idxA tabOk rfl (by omega) ?_
    | refine YQ.sliceA tabOk rfl (by omega) (by omega) ?_
    | refine YQ.sliceAll tabOk rfl ?_
    | refine YQ.load1 tabOk rfl 0 rfl rfl ?_
    | refine YQ.load1 tabOk rfl 1 rfl rfl ?_
    | refine YQ.load1 tabOk rfl 2 rfl rfl ?_
    | refine YQ.load1 tabOk rfl 3 rfl rfl ?_
    | refine YQ.load1 tabOk rfl 4 rfl rfl ?_
    | refine YQ.load1 tabOk rfl 5 rfl rfl ?_
    | refine YQ.loadF tabOk rfl 0 rfl rfl ?_
    | refine YQ.loadF tabOk rfl 1 rfl rfl ?_
    | refine YQ.loadF tabOk rfl 2 rfl rfl ?_
    | refine YQ.loadF tabOk rfl 3 rfl rfl ?_
    | refine YQ.loadF tabOk rfl 4 rfl rfl ?_
    | refine YQ.loadF tabOk rfl 5 rfl rfl ?_
    | refine YQ.loadA tabOk rfl 0 rfl rfl rfl ?_
    | refine YQ.loadA tabOk rfl 1 rfl rfl rfl ?_
    | refine YQ.loadA tabOk rfl 2 rfl rfl rfl ?_
    | refine YQ.loadA tabOk rfl 3 rfl rfl rfl ?_
    | refine YQ.loadA tabOk rfl 4 rfl rfl rfl ?_
    | refine YU.store1L tabOk rfl rfl 0 rfl rfl ?_
    | refine YU.store1L tabOk rfl rfl 1 rfl rfl ?_
    | refine YU.store1L tabOk rfl rfl 2 rfl rfl ?_
    | refine YU.store1L tabOk rfl rfl 3 rfl rfl ?_
    | refine YU.store1L tabOk rfl rfl 4 rfl rfl ?_
    | refine YU.storeF tabOk rfl rfl rfl 0 rfl rfl ?_
    | refine YU.storeF tabOk rfl rfl rfl 1 rfl rfl ?_
    | refine YU.storeF tabOk rfl rfl rfl 2 rfl rfl ?_
    | refine YU.storeF tabOk rfl rfl rfl 3 rfl rfl ?_
    | refine YU.storeF tabOk rfl rfl rfl 4 rfl rfl ?_
    | refine YU.storeF tabOk rfl rfl rfl 5 rfl rfl ?_
    | refine YU.storeAL tabOk rfl rfl rfl 0 rfl rfl ?_
    | refine YU.storeAL tabOk rfl rfl rfl 1 rfl rfl ?_
    | refine YU.storeAL tabOk rfl rfl rfl 2 rfl rfl ?_
    | refine YU.storeAL tabOk rfl rfl rfl 3 rfl rfl ?_
    | refine YU.storeAL tabOk rfl rfl rfl 4 rfl rfl ?_
    | refine YQ.build tabOk rfl rfl rfl ?_
    | refine YQ.eqF tabOk rfl rfl rfl ?_
    | refine YQ.neF tabOk rfl rfl rfl ?_
    | refine gsplit.eq (fun hc => ?_) (fun hc => ?_)
    | refine gsplit.neq (fun hc => ?_) (fun hc => ?_)
    | refine Dr.all (by kernel_rfl) ?_
    | intro b)
  all_goals first
    | rfl
    | (show Value.bool _ = Value.bool _; congr 1; simp; done)
    | contradiction
    | (exfalso; omega)
theorem ramBack_walk (a0 : Int) (w0 : (Lit.int .i64 a0).wf = true) (a1 : Int) (w1 : (Lit.int .i64 a1).wf = true) (a2 : Int) (w2 : (Lit.int .i64 a2).wf = true) (a3 : Int) (w3 : (Lit.int .u32 a3).wf = true) (W : World) :
    Calls Try.prog 8 #[.int .i64 a0, .int .i64 a1, .int .i64 a2, .int .u32 a3] W fun e w' => e = .returned (.bool true) ∧ RowKit.Below W.heap.size W w' :=
  (ramBack_con a0 a1 a2 a3 (wf_u32 w3) W).law
theorem ramHalves_walk (a0 : Int) (w0 : (Lit.int .i64 a0).wf = true) (a1 : Int) (w1 : (Lit.int .u32 a1).wf = true) (W : World) :
    Calls Try.prog 9 #[.int .i64 a0, .int .u32 a1] W fun e w' => e = .returned (.bool true) ∧ RowKit.Below W.heap.size W w' :=
  (ramHalves_con a0 a1 (wf_u32 w1) W).law
end Go.Proofs.Ytmpjdoodpkhmpaa
