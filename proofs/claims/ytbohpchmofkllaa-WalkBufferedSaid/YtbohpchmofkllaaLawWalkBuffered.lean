/- 'viceroylaw04.WalkBuffered' answers true at every input. Conditions: none beside the row's own. -/
import Derived.Test.YtbohpchmofkllaaLawWalkReaches
set_option linter.unusedVariables false
set_option linter.unusedSimpArgs false
set_option maxRecDepth 10000
set_option maxHeartbeats 16000000
namespace Go.Proofs.Ytbohpchmofkllaa
open Vc Mem
theorem YQ.min2 {P : Program} {w0 : World} {I : List Nat} {L : Hs} {ts : Array TypeId} {kd : IntKind} {a b : Int} {K : Value → Prop} (k : K (.int kd (if b < a then b else a))) : YQ P w0 I L (.min ts [.int kd a, .int kd b]) K :=
  YQ.val _ (fun w => by simp [Rq.sem, Builtin.min_, Builtin.min2, Sem.run]) k
theorem YQ.neg {P : Program} {w0 : World} {I : List Nat} {L : Hs} {kd : IntKind} {a : Int} {K : Value → Prop} (k : Wr kd (-a) K) : YQ P w0 I L (.un .neg (.int kd a)) K := by
  obtain ⟨z, h, hk⟩ := k
  refine YQ.val _ (fun w => ?_) hk
  have h2 : (0 : Int) - a = -a := by omega
  simp [Rq.sem, Op.unary, Op.intArith, Sem.run, h]
theorem tmod_b (a b : Int) (hb : 0 < b) : -b < a.tmod b ∧ a.tmod b < b := by
  by_cases h : 0 ≤ a
  · rw [Int.tmod_eq_emod_of_nonneg h]
    have h1 := Int.emod_nonneg a (show b ≠ 0 by omega)
    have h2 := Int.emod_lt_of_pos a hb
    omega
  · have h3 : a.tmod b = -((-a).tmod b) := by rw [Int.neg_tmod, Int.neg_neg]
    rw [h3, Int.tmod_eq_emod_of_nonneg (show 0 ≤ -a by omega)]
    have h1 := Int.emod_nonneg (-a) (show b ≠ 0 by omega)
    have h2 := Int.emod_lt_of_pos (-a) hb
    omega
theorem band_in8 : ∀ a b : Fin 8, ∀ w : Fin 3, (¬ band (band a.1 b.1) (2 ^ w.1 : Nat) = 0 → ¬ band a.1 (2 ^ w.1 : Nat) = 0 ∧ ¬ band b.1 (2 ^ w.1 : Nat) = 0) := by decide
theorem band_in {a b w : Int} (ha : 0 ≤ a ∧ a ≤ 7) (hb : 0 ≤ b ∧ b ≤ 7) (hw : w = 1 ∨ w = 2 ∨ w = 4) (h : ¬ band (band a b) w = 0) : ¬ band a w = 0 ∧ ¬ band b w = 0 := by
  obtain ⟨a, rfl⟩ := in8 ha
  obtain ⟨b, rfl⟩ := in8 hb
  rcases hw with rfl | rfl | rfl
  · exact band_in8 a b 0 h
  · exact band_in8 a b 1 h
  · exact band_in8 a b 2 h
theorem scd_eq {n : Nat} {xs : List Int} {root pg want : Int} (h1 : (sgl n xs root pg).f.k = 0) (h2 : ¬ band (sgl n xs root pg).b want = 0) : scd n xs root pg want = ⟨(sgl n xs root pg).a, (sgl n xs root pg).b, fa0⟩ := by
  unfold scd
  rw [if_neg (fun h => h h1), if_neg h2]
/-- What is found with one right is found with each other one that the entry has. -/
theorem nst_want {n : Nat} {xs : List Int} {s : Sp} {pg want want' : Int} (h : (nst n xs s pg want).f.k = 0) (hw : want' = 1 ∨ want' = 2 ∨ want' = 4) (hb : ¬ band (nst n xs s pg want).b want' = 0) :
    (nst n xs s pg want').a = (nst n xs s pg want).a ∧ (nst n xs s pg want').f = fa0 := by
  by_cases h1 : (0 ≤ pg ∧ pg ≤ 1023) ∧ (want = 1 ∨ want = 2 ∨ want = 4)
  · have hg : ∀ w, (w = 1 ∨ w = 2 ∨ w = 4) → nst n xs s pg w = if s.fi < 0 then scd n xs s.se pg w else if ¬ (own n xs s pg).f.k = 0 then ⟨0, 0, (own n xs s pg).f⟩ else if band (own n xs s pg).x.r w = 0 then ⟨0, 0, ⟨2, 1, 1, false, pg⟩⟩
        else ⟨(scd n xs s.se (own n xs s pg).x.f w).a, band (scd n xs s.se (own n xs s pg).x.f w).b (own n xs s pg).x.r, (scd n xs s.se (own n xs s pg).x.f w).f⟩ := fun w hw => if_neg (fun hn => hn ⟨h1.1, hw⟩)
    rw [hg want h1.2] at h hb ⊢
    rw [hg want' hw]
    by_cases h2 : s.fi < 0
    · rw [if_pos h2] at h hb
      rw [if_pos h2, if_pos h2]
      obtain ⟨⟨a1, a2⟩, a3, a4⟩ := scd_ok h
      rw [a4] at hb
      rw [scd_eq a1 hb, a3]
      exact ⟨rfl, rfl⟩
    · rw [if_neg h2] at h hb
      rw [if_neg h2, if_neg h2]
      by_cases h3 : (own n xs s pg).f.k = 0
      · have h3' : ¬ ¬ (own n xs s pg).f.k = 0 := fun hn => hn h3
        rw [if_neg h3'] at h hb
        rw [if_neg h3', if_neg h3']
        by_cases h4 : band (own n xs s pg).x.r want = 0
        · rw [if_pos h4] at h
          exact absurd h (by show ¬ ((2 : Int) = 0); decide)
        · rw [if_neg h4] at h hb
          rw [if_neg h4]
          obtain ⟨⟨a1, a2⟩, a3, a4⟩ := scd_ok h
          replace hb : ¬ band (band (scd n xs s.se (own n xs s pg).x.f want).b (own n xs s pg).x.r) want' = 0 := hb
          rw [a4] at hb
          obtain ⟨b1, b2⟩ := band_in (sgl_b _ _ _ _) (own_r _ _ _ _) hw hb
          rw [if_neg b2, scd_eq a1 b1, a3]
          exact ⟨rfl, rfl⟩
      · rw [if_pos h3] at h
        exact absurd h h3
  · unfold nst at h
    rw [if_pos h1] at h
    exact absurd h (by show ¬ ((3 : Int) = 0); decide)
/-- The space of a number. -/
def spk (sps : List Sp) (k : Nat) : Sp := ⟨1 + k, (sps.getD k ⟨0, 0, 0, 0⟩).sid, (sps.getD k ⟨0, 0, 0, 0⟩).fi, (sps.getD k ⟨0, 0, 0, 0⟩).se⟩
/-- Each line is what the tables of its space say. -/
def Coh (X : List Int) (sps : List Sp) (ls : List Ln) : Prop := ∀ y, y ∈ ls → y ≠ ln0 → ∃ k : Nat, y.v = 1 + k ∧ y.a = (spk sps k).sid ∧ ∀ want, (want = 1 ∨ want = 2 ∨ want = 4) → ¬ band y.r want = 0 → (nst 16 X (spk sps k) y.p want).a = y.f ∧ (nst 16 X (spk sps k) y.p want).f = fa0
theorem coh_0 (X : List Int) (sps : List Sp) : Coh X sps S8 := fun y hy h0 => absurd (List.eq_of_mem_replicate hy) h0
theorem coh_ev {X : List Int} {sps : List Sp} {ls : List Ln} (h : Coh X sps ls) (at_ : Int) : Coh X sps (evL at_ ls) := by
  intro y hy h0
  unfold evL at hy
  split at hy
  · rcases List.mem_or_eq_of_mem_set hy with h1 | h1
    · exact h y h1 h0
    · exact absurd h1 h0
  · exact h y hy h0
theorem coh_rch {X : List Int} {sps : List Sp} {ls : List Ln} (h : Coh X sps ls) (k : Nat) (pg want at_ : Int) :
    (rch 16 X ls (spk sps k) pg want at_).a = (nst 16 X (spk sps k) pg want).a ∧ (rch 16 X ls (spk sps k) pg want at_).f = (nst 16 X (spk sps k) pg want).f ∧ Coh X sps (rch 16 X ls (spk sps k) pg want at_).ls := by
  have hm : (missed 16 X ls (spk sps k) pg want at_).a = (nst 16 X (spk sps k) pg want).a ∧ (missed 16 X ls (spk sps k) pg want at_).f = (nst 16 X (spk sps k) pg want).f ∧ Coh X sps (missed 16 X ls (spk sps k) pg want at_).ls := by
    unfold missed
    by_cases hk : (nst 16 X (spk sps k) pg want).f.k = 0
    · rw [if_neg (fun hn => hn hk)]
      refine ⟨rfl, (nst_f0 hk).symm, ?_⟩
      intro y hy h0
      unfold fillL at hy
      split at hy
      · rcases List.mem_or_eq_of_mem_set hy with h1 | rfl
        · rw [flL] at h1
          obtain ⟨z, hz, he⟩ := List.mem_map.1 h1
          split at he
          · exact absurd he.symm h0
          · subst he; exact h z hz h0
        · exact ⟨k, rfl, rfl, fun want' hw hb => nst_want hk hw hb⟩
      · exact h y hy h0
    · rw [if_pos hk]
      exact ⟨(nst_no hk).1.symm, rfl, h⟩
  unfold rch
  split
  · rename_i y hy
    split
    · rename_i hc
      have hz := List.find?_some hy
      have hmem := List.mem_of_find?_eq_some hy
      simp only [mt, decide_eq_true_eq] at hz
      obtain ⟨k', e1, e2, e3⟩ := h y hmem hz.1
      have hkk : k' = k := by have := hz.2.1; rw [e1] at this; have h9 : (spk sps k).vm = 1 + k := rfl; omega
      subst hkk
      obtain ⟨g1, g2⟩ := e3 want hc.2 hc.1
      rw [hz.2.2.2] at g1 g2
      exact ⟨g1.symm, g2.symm, h⟩
    · exact hm
  · exact hm
theorem rd_sps {W : World} {n : Nat} {a : Option Addr} {len cap : Nat} (h : Rd Try.prog W n 58 (Value.slice a len cap).cells.toList) : ∃ sps : List Sp, sps.length = len ∧ Arr W 4 spV a sps := by
  obtain ⟨acts, h1, h2, h3, h4⟩ := rd_arr h Try.underlying58 (by kernel_rfl) (fun k es hl hR => by
    obtain ⟨s, hs⟩ := rd_space (a := es.toArray) (by simpa [Value.cells] using hR)
    exact ⟨s, by have := congrArg Array.toList hs; simpa using this⟩)
  exact ⟨acts, h1, h4⟩
theorem YQ.negN {P : Program} {w0 : World} {I : List Nat} {L : Hs} {a : Int} {K : Value → Prop} (h : 0 ≤ a ∧ a ≤ 100) (k : K (.int .i64 a)) : YQ P w0 I L (.un .neg (.int .i64 (-a))) K :=
  YQ.neg (Wr.i64 (by omega) (by rw [Int.neg_neg]; exact k))
theorem tm_cases (a b : Int) (hb : 0 < b) : (∃ j : Nat, (j : Int) < b ∧ a.tmod b = j) ∨ (∃ j : Nat, (j : Int) < b ∧ 0 < j ∧ a.tmod b = -(j : Int)) := by
  have h := tmod_b a b hb
  by_cases h0 : 0 ≤ a.tmod b
  · exact .inl ⟨(a.tmod b).toNat, by omega, by omega⟩
  · exact .inr ⟨(-(a.tmod b)).toNat, by omega, by omega, by omega⟩
theorem spV_len (s : Sp) : (spV s).length = 4 := rfl
theorem getD_of {α : Type} {l : List α} {j : Nat} (d : α) (h : j < l.length) : l[j]? = some (l.getD j d) := by
  rw [List.getD_eq_getElem?_getD, List.getElem?_eq_getElem h]
  rfl
structure Wb where
  i : Nat
  ls : List Ln
  f : Int
  m : Int
theorem walkBuffered_aux (X : List Int) (hl : X.length = 16 * 64) (hB : By X) (us : List Pu) (hX : lay (us.take 200) = X) (a : Option Addr) (len cap : Nat) (w : World) (hlen : us.length = len) (ha : Arr w 8 puV a us) (a1 : Option Addr) (len1 cap1 : Nat) (sps : List Sp) (hlen1 : sps.length = len1) (ha1 : Arr w 4 spV a1 sps)
    (a2 : Option Addr) (len2 cap2 : Nat) (acts : List (As w)) (hlen2 : acts.length = len2) (ha2 : Arr w 9 asV a2 acts) (mn : Int) (hmn : (if (3 : Int) < (len1 : Int) then 3 else (len1 : Int)) = mn) (hm1 : mn ≤ len1 ∧ mn ≤ 3) (hm2 : len1 = 0 ∨ 0 < mn) :
    Con Try.prog 8 [.slice a len cap, .slice a1 len1 cap1, .slice a2 len2 cap2] w [] (fun y L' => y = .bool true ∧ L' = []) := by
  refine Con.of_vc tabOk 105 [.tmp 6] Try.func8 rfl Try.ntmps8 Try.results8 rfl (Own.nil' w) ?_
  repeat' ((conv => whnf); first
    | (show _ ∧ _; first | (simp only [hX] at hx) | (obtain ⟨rfl, rfl⟩ := hx; refine ⟨rfl, ?_⟩) | (obtain ⟨b, rfl, rfl⟩ := hx; refine ⟨rfl, ?_⟩) | (obtain ⟨b, c, rfl, rfl⟩ := hx; refine ⟨rfl, ?_⟩) | (obtain ⟨p, F, sl, B, rfl, rfl⟩ := hx; refine ⟨rfl, ?_⟩) | (obtain ⟨rfl, rfl⟩ := hx; refine ⟨rfl, ?_⟩) | (obtain ⟨b, rfl, rfl⟩ := hx; refine ⟨rfl, ?_⟩) | (obtain ⟨b, c, rfl, rfl⟩ := hx; refine ⟨rfl, ?_⟩))
    | (show gsplit _ _ _; first | refine gsplit.tt ?_ | refine gsplit.ff ?_ | refine gsplit.dpos (by omega) ?_ | refine gsplit.dneg (by omega) ?_ | refine gsplit.npos (by omega) ?_ | refine gsplit.nneg (by omega) ?_ | refine gsplit.dec (fun hc => ?_) (fun hc => ?_) | refine gsplit.ndec (fun hc => ?_) (fun hc => ?_) | refine gsplit.eq (fun hc => ?_) (fun hc => ?_) | refine gsplit.neq (fun hc => ?_) (fun hc => ?_) | refine gsplit.mk (fun hb => ?_) (fun hb => ?_))
    | (show YQ _ _ _ _ _ _; first | refine qeqp Try.underlying26 ?_ | refine qeqp Try.underlying60 ?_ | refine YQ.idxN tabOk rfl ha2 asV_len (by omega) st.i (List.getElem?_eq_getElem (by omega)) (by omega) (fun ab ao hd => ?_) | refine YQ.loadNA tabOk hd rfl 0 rfl (us := asV _) rfl rfl ?_ | (refine YQ.min2 ?_; rw [hmn]) | (refine YQ.rem (by omega) ?_; rcases tm_cases (acts[st.i]'(by omega)).ev mn (by omega) with ⟨j, hj, e⟩ | ⟨j, hj, hj0, e⟩ <;> rw [e]) | refine YQ.negN (by omega) ?_ | refine YQ.idxN tabOk rfl ha1 spV_len (by omega) j (getD_of ⟨0, 0, 0, 0⟩ (by omega)) (by omega) (fun ab ao hd => ?_) | refine YQ.loadNA tabOk hd rfl 0 rfl (us := spV _) rfl rfl ?_ | refine YQ.loadF tabOk rfl 8 rfl rfl ?_ | refine YQ.remN (by omega) ?_ | refine YQ.quoN (by omega) ?_ | refine YQ.len tabOk rfl ?_ | refine YQ.idx tabOk rfl (by omega) ?_ | refine YQ.idxA tabOk rfl (by omega) ?_ | refine YQ.sliceA tabOk rfl (by omega) (by omega) ?_ | refine YQ.sliceAll tabOk rfl ?_ | refine YQ.load1 tabOk rfl 0 rfl rfl ?_ | refine YQ.load1 tabOk rfl 1 rfl rfl ?_ | refine YQ.load1 tabOk rfl 2 rfl rfl ?_ | refine YQ.load1 tabOk rfl 3 rfl rfl ?_ | refine YQ.load1 tabOk rfl 4 rfl rfl ?_ | refine YQ.load1 tabOk rfl 5 rfl rfl ?_ | refine YQ.load1 tabOk rfl 6 rfl rfl ?_ | refine YQ.load1 tabOk rfl 7 rfl rfl ?_ | refine YQ.loadF tabOk rfl 0 rfl rfl ?_ | refine YQ.loadF tabOk rfl 1 rfl rfl ?_ | refine YQ.loadF tabOk rfl 2 rfl rfl ?_ | refine YQ.loadF tabOk rfl 3 rfl rfl ?_ | refine YQ.loadF tabOk rfl 4 rfl rfl ?_ | refine YQ.loadF tabOk rfl 5 rfl rfl ?_ | refine YQ.loadF tabOk rfl 6 rfl rfl ?_ | refine YQ.loadF tabOk rfl 7 rfl rfl ?_ | refine YQ.loadA tabOk rfl 0 rfl rfl rfl ?_ | refine YQ.loadA tabOk rfl 1 rfl rfl rfl ?_ | refine YQ.loadA tabOk rfl 2 rfl rfl rfl ?_ | refine YQ.loadA tabOk rfl 3 rfl rfl rfl ?_ | refine YQ.loadA tabOk rfl 4 rfl rfl rfl ?_ | refine YQ.build tabOk rfl rfl rfl ?_ | refine YQ.eqF tabOk rfl rfl rfl ?_ | refine YQ.neF tabOk rfl rfl rfl ?_)
    | (show YC _ _ _ _ _ _ _; first | refine YC.conR [] [] rfl rfl (fun w _ _ => awake4_con w) (fun x L' hx => ?_) | refine YC.conR [] [] rfl rfl (fun w _ _ => new_con w) (fun x L' hx => ?_) | refine YC.conR [] [] rfl rfl (fun w hw0 _ => laid_con a len cap w us hlen (Arr.later hw0 ha)) (fun x L' hx => ?_) | refine YC.conR [4] _ rfl rfl (fun w hw0 hw => evict_con _ st.ls hst.2.1.len st.f st.m w hw _) (fun x L' hx => ?_) | refine YC.conR [0, 1, 4] _ rfl rfl (fun w hw0 hw => reach_con _ _ 16 (by omega) X hB hl _ (evL _ st.ls) (TI_ev hst.2.1 _) st.f st.m (spk sps j) _ _ _ w hw) (fun x L' hx => ?_) | refine YC.conR [0, 1] _ rfl rfl (fun w hw0 hw => nested_con _ _ 16 (by omega) X hB hl (spk sps j) _ _ w hw) (fun x L' hx => ?_))
    | (show YU _ _ _ _ _ _ _ _; first | refine YU.storeF tabOk rfl rfl rfl 8 rfl rfl ?_ | refine YU.store1L tabOk rfl rfl 0 rfl rfl ?_ | refine YU.store1L tabOk rfl rfl 1 rfl rfl ?_ | refine YU.store1L tabOk rfl rfl 2 rfl rfl ?_ | refine YU.store1L tabOk rfl rfl 3 rfl rfl ?_ | refine YU.store1L tabOk rfl rfl 4 rfl rfl ?_ | refine YU.store1L tabOk rfl rfl 5 rfl rfl ?_ | refine YU.store1L tabOk rfl rfl 6 rfl rfl ?_ | refine YU.store1L tabOk rfl rfl 7 rfl rfl ?_ | refine YU.storeF tabOk rfl rfl rfl 0 rfl rfl ?_ | refine YU.storeF tabOk rfl rfl rfl 1 rfl rfl ?_ | refine YU.storeF tabOk rfl rfl rfl 2 rfl rfl ?_ | refine YU.storeF tabOk rfl rfl rfl 3 rfl rfl ?_ | refine YU.storeF tabOk rfl rfl rfl 4 rfl rfl ?_ | refine YU.storeF tabOk rfl rfl rfl 5 rfl rfl ?_ | refine YU.storeF tabOk rfl rfl rfl 6 rfl rfl ?_ | refine YU.storeF tabOk rfl rfl rfl 7 rfl rfl ?_ | refine YU.storeAL tabOk rfl rfl rfl 0 rfl rfl ?_ | refine YU.storeAL tabOk rfl rfl rfl 1 rfl rfl ?_ | refine YU.storeAL tabOk rfl rfl rfl 2 rfl rfl ?_ | refine YU.storeAL tabOk rfl rfl rfl 3 rfl rfl ?_ | refine YU.storeAL tabOk rfl rfl rfl 4 rfl rfl ?_)
    | (show Wr _ _ _; first | refine Wr.i64 (by omega) ?_ | refine Wr.u8 (by omega) ?_ | refine Wr.u16 (by omega) ?_ | refine Wr.u32 (by omega) ?_)
    | (show BIf _ _ _; first | refine BIf.pos rfl ?_ | refine BIf.neg rfl ?_)
    | (show Lp _ _ _ _ _; first | refine Lp.mk (α := Wb) [11] [1, 2, 7, 8, 10] _ (fun x => [.int .i64 x.i]) (fun y => [ramE _ _ 16, frE _ X, refE _ _ 16, byE _ X, tlbE _ y.ls y.f y.m]) (fun x => x.i ≤ 100 ∧ TI x.ls ∧ Coh X sps x.ls) (fun x => 100 - x.i) rfl rfl ⟨0, S8, 0, 0⟩ ⟨by simp, TI8, coh_0 _ _⟩ rfl ⟨_, rfl⟩ (fun st hst => ?_))
    | (show Dr _ _ _ _ _ _ _ _ _; first | refine Dr.all (by kernel_rfl) ?_)
    | (show Fork _ _; first | refine Fork.mk ?_ ?_)
    | (show Vc.Fin _ _ _; first | refine Fin.take 0 (And.intro ?_ rfl))
    | refine ⟨⟨st.i + 1, (rch 16 X (evL _ st.ls) (spk sps j) _ _ _).ls, _, _⟩, ⟨by show st.i + 1 ≤ 100; omega, TI_rch (TI_ev hst.2.1 _) _ _ _ _ _ _, (coh_rch (coh_ev hst.2.2 _) j _ _ _).2.2⟩, by show 100 - (st.i + 1) < 100 - st.i; omega, rfl, ⟨_, rfl⟩⟩
    | intro b)
  all_goals first
    | (show Value.bool _ = Value.bool _; rfl)
    | contradiction
    | (exfalso; omega)
    | (exfalso; exact hc (coh_rch (coh_ev hst.2.2 _) j _ _ _).1)
    | (exfalso; apply hc; rw [(coh_rch (coh_ev hst.2.2 _) j _ _ _).2.1]; exact ⟨rfl, rfl, rfl, rfl, rfl, trivial⟩)
theorem walkBuffered_walk (a0 : Option Addr) (len0 cap0 n0 : Nat) {W : World} (rd0 : Rd Try.prog W n0 22 (Value.slice a0 len0 cap0).cells.toList) (a1 : Option Addr) (len1 cap1 n1 : Nat) (rd1 : Rd Try.prog W n1 58 (Value.slice a1 len1 cap1).cells.toList) (a2 : Option Addr) (len2 cap2 n2 : Nat) (rd2 : Rd Try.prog W n2 59 (Value.slice a2 len2 cap2).cells.toList) :
    Calls Try.prog 8 #[.slice a0 len0 cap0, .slice a1 len1 cap1, .slice a2 len2 cap2] W fun e w' => e = .returned (.bool true) ∧ RowKit.Below W.heap.size W w' := by
  obtain ⟨us, h1, h2⟩ := rd_puts rd0
  obtain ⟨sps, g1, g2⟩ := rd_sps rd1
  obtain ⟨acts, k1, k2⟩ := rd_asks rd2
  refine (walkBuffered_aux _ (lay_in _).1 (lay_in _).2 us rfl a0 len0 cap0 W h1 h2 a1 len1 cap1 sps g1 g2 a2 len2 cap2 acts k1 k2 _ rfl ?_ ?_).law
  · split <;> omega
  · split <;> omega
end Go.Proofs.Ytbohpchmofkllaa
