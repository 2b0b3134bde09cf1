/- That the generator of verification conditions is sound, for sequences of operations, for code and for calls. Conditions: none. -/
import Derived.Test.YtggbhokhibfdmaaVc
set_option linter.unusedVariables false
set_option linter.unusedSimpArgs false
set_option linter.unusedSectionVars false
namespace Go.Proofs.Ytggbhokhibfdmaa
namespace Vc

section
variable {P : Program} {w0 : World} {I : List Nat} {T : Tab}

theorem bindTo_sound {n : Nat} {env : Env} {a : Act} {d : Option Nat} {v : Value} {K : Env → Prop} (he : ER n env a) (h : bindTo n env d v K) :
    ∃ env', ER n env' (a.put d v) ∧ K env' := by
  unfold bindTo at h
  split at h
  · exact ⟨env, he, h⟩
  · rename_i d
    split at h
    · rename_i hd
      exact ⟨_, he.put d v (by simpa using hd), h⟩
    · exact h.elim

/-- A slot of which it is known that it holds this very value. -/
theorem ER.know {n : Nat} {env : Env} {a : Act} (he : ER n env a) {d : Nat} {v : Value} (h : Vc.get env d = some v) : ER n ((d, v) :: env) a where
  defers := he.defers
  size := he.size
  get := by
    intro i u hu
    simp only [Vc.get] at hu
    split at hu
    · rename_i hb
      have : i = d := by simpa using hb
      subst this
      simp at hu
      subst hu
      exact he.get _ _ h
    · exact he.get i u hu

theorem lgetO_eq : ∀ (l : List Oper) (j : Nat), lgetO l j = l[j]?
  | [], j => by simp [lgetO]
  | o :: r, 0 => by simp [lgetO]
  | o :: r, j + 1 => by simp [lgetO, lgetO_eq r j]

theorem yielded_of {n : Nat} {env : Env} {a : Act} {full : List Oper} {j d : Nat} {g : Oper} {v : Value} (he : ER n env a) (hg : lgetO full j = some g) (hd : g.dst = some d) (hv : get env d = some v) :
    yielded full.toArray a.tmps j = match v with | .bool b => some b | _ => none := by
  have h1 : full.toArray[j]? = some g := by simpa [lgetO_eq] using hg
  simp only [yielded, h1, Option.bind_some, hd, he.get _ _ hv]
  cases v <;> rfl

theorem put_other {a : Act} {d : Option Nat} {v : Value} {i : Nat} (h : ∀ x, d = some x → i ≠ x) : (a.put d v).tmps[i]? = a.tmps[i]? := by
  cases d with
  | none => rfl
  | some x =>
    simp only [Act.put]
    rw [Array.getElem?_setIfInBounds_ne (Ne.symm (h x rfl))]

theorem vcOps_sound (TO : TabOk P T) {n : Nat} {full : List Oper} {K : Env → Hs → Prop} {Q : Exit → Act → World → Prop} (D : List Nat) :
    ∀ (l : List Oper) (env : Env) (L : Hs) (a : Act) (w : World), (∀ o, o ∈ l → ∀ d, o.dst = some d → d ∈ D) →
      (∀ env' L' a' w', K env' L' → ER n env' a' → Hp w0 I w' L' → (∀ i, i ∉ D → a'.tmps[i]? = a.tmps[i]?) → Q .normal a' w') →
      vcOps P w0 I T n full l K env L → ER n env a → Hp w0 I w L → wpList P full.toArray Q l a w
  | [], env, L, a, w, hD, hQ, h, he, hw => hQ env L a w h he hw (fun _ _ => rfl)
  | o :: rest, env, L, a, w, hD, hQ, h, he, hw => by
    have ih := vcOps_sound TO (n := n) (full := full) (K := K) (Q := Q) D rest
    have hstep : ∀ {env0 : Env} {L0 : Hs} {v : Value} {w' : World}, ER n env0 a → Hp w0 I w' L0 → bindTo n env0 o.dst v (fun env' => vcOps P w0 I T n full rest K env' L0) →
        wpList P full.toArray Q rest (a.put o.dst v) w' := by
      intro env0 L0 v w' he0 hw' hb
      obtain ⟨env', he', hk⟩ := bindTo_sound he0 hb
      refine ih env' L0 _ w' (fun o' ho' => hD o' (List.mem_cons_of_mem _ ho')) ?_ hk he' hw'
      intro env2 L2 a2 w2 hk2 he2 hw2 hag
      refine hQ env2 L2 a2 w2 hk2 he2 hw2 (fun i hi => ?_)
      rw [hag i hi]
      exact put_other (fun x hx hix => hi (hix ▸ hD o (List.mem_cons_self ..) x hx))
    rw [vcOps_cons] at h
    unfold stepOp at h
    unfold wpList
    split at h
    · rename_i hg
      rw [if_pos (by simp [Region.wanted, hg])]
      exact .inl (wop_sound TO he h hw (fun v w' L' hp hk => hstep he hp hk))
    · rename_i j want hg
      split at h
      · exact h.elim
      · rename_i g hgo
        split at h
        · exact h.elim
        · rename_i d hd
          split at h
          · rename_i b hb
            have hy := yielded_of he hgo hd hb
            have hkn := he.know hb
            split at h
            · -- wanted true
              obtain ⟨ht, hf⟩ := h
              cases b with
              | true =>
                have h := ht rfl
                rw [if_pos (by simp [Region.wanted, hg, hy])]
                exact .inl (wop_sound TO hkn h hw (fun v w' L' hp hk => hstep hkn hp hk))
              | false =>
                have h := hf rfl
                rw [if_neg (by simp [Region.wanted, hg, hy])]
                exact hstep hkn hw h
            · obtain ⟨ht, hf⟩ := h
              cases b with
              | true =>
                have h := ht rfl
                rw [if_neg (by simp [Region.wanted, hg, hy])]
                exact hstep hkn hw h
              | false =>
                have h := hf rfl
                rw [if_pos (by simp [Region.wanted, hg, hy])]
                exact .inl (wop_sound TO hkn h hw (fun v w' L' hp hk => hstep hkn hp hk))
          · rename_i vs hb
            have hy := yielded_of he hgo hd hb
            rw [if_neg (by simp [Region.wanted, hg, hy])]
            exact hstep he hw h
          · exact h.elim

theorem vcQs_sound (TO : TabOk P T) {n : Nat} {full : List Oper} {K : Env → Prop} {Q : Act → Prop} (D : List Nat) {w : World} :
    ∀ (l : List Oper) (env : Env) (L : Hs) (a : Act), (∀ o, o ∈ l → ∀ d, o.dst = some d → d ∈ D) →
      (∀ env' a', K env' → ER n env' a' → (∀ i, i ∉ D → a'.tmps[i]? = a.tmps[i]?) → Q a') →
      vcQs P w0 I T n full l K env L → ER n env a → Hp w0 I w L → wpStill P full.toArray w Q l a
  | [], env, L, a, hD, hQ, h, he, hw => hQ env a h he (fun _ _ => rfl)
  | o :: rest, env, L, a, hD, hQ, h, he, hw => by
    have ih := vcQs_sound TO (n := n) (full := full) (K := K) (Q := Q) D (w := w) rest
    have hstep : ∀ {env0 : Env} {v : Value}, ER n env0 a → bindTo n env0 o.dst v (fun env' => vcQs P w0 I T n full rest K env' L) →
        wpStill P full.toArray w Q rest (a.put o.dst v) := by
      intro env0 v he0 hb
      obtain ⟨env', he', hk⟩ := bindTo_sound he0 hb
      refine ih env' L _ (fun o' ho' => hD o' (List.mem_cons_of_mem _ ho')) ?_ hk he' hw
      intro env2 a2 hk2 he2 hag
      refine hQ env2 a2 hk2 he2 (fun i hi => ?_)
      rw [hag i hi]
      exact put_other (fun x hx hix => hi (hix ▸ hD o (List.mem_cons_self ..) x hx))
    have hop : ∀ {env0 : Env}, ER n env0 a → qop P w0 I T env0 L o.op (fun v => bindTo n env0 o.dst v (fun env' => vcQs P w0 I T n full rest K env' L)) →
        o.still P a w (wpStill P full.toArray w Q rest) := by
      intro env0 he0 hq
      obtain ⟨v, h1, h2⟩ := qop_sound TO he0 hq
      unfold Oper.still
      rw [h1 w hw, Oper.stillUpon_value]
      exact hstep he0 h2
    rw [vcQs_cons] at h
    unfold stepQ at h
    unfold wpStill
    split at h
    · rename_i hg
      rw [if_pos (by simp [Region.wanted, hg])]
      exact hop he h
    · rename_i j want hg
      split at h
      · exact h.elim
      · rename_i g hgo
        split at h
        · exact h.elim
        · rename_i d hd
          split at h
          · rename_i b hb
            have hy := yielded_of he hgo hd hb
            have hkn := he.know hb
            split at h
            · obtain ⟨ht, hf⟩ := h
              cases b with
              | true =>
                have h := ht rfl
                rw [if_pos (by simp [Region.wanted, hg, hy])]
                exact hop hkn h
              | false =>
                have h := hf rfl
                rw [if_neg (by simp [Region.wanted, hg, hy])]
                exact hstep hkn h
            · obtain ⟨ht, hf⟩ := h
              cases b with
              | true =>
                have h := ht rfl
                rw [if_neg (by simp [Region.wanted, hg, hy])]
                exact hstep hkn h
              | false =>
                have h := hf rfl
                rw [if_pos (by simp [Region.wanted, hg, hy])]
                exact hop hkn h
          · rename_i vs hb
            have hy := yielded_of he hgo hd hb
            rw [if_neg (by simp [Region.wanted, hg, hy])]
            exact hstep he h
          · exact h.elim

theorem mem_dstsOps {l : List Oper} {o : Oper} {d : Nat} (ho : o ∈ l) (hd : o.dst = some d) : d ∈ dstsOps l := List.mem_filterMap.2 ⟨o, ho, hd⟩

theorem pop_sound (TO : TabOk P T) {n : Nat} {env : Env} {a : Act} {o : Oper} {K : Value → Prop} (he : ER n env a) (h : pop T env o.op K) :
    ∃ v, (∀ w, (execOp a.eval o).run P w = .ok (.value v) w) ∧ K v := by
  obtain ⟨dst, op, ty, pos, after, guard⟩ := o
  dsimp only at h ⊢
  unfold pop at h
  split at h
  case h_1 x =>
    split at h
    · rename_i v hx
      exact ⟨v, fun w => by simp [execOp, he.ev hx, Sem.run], h⟩
    · exact h.elim
  case h_2 x =>
    split at h
    · rename_i v hx
      exact ⟨v, fun w => by simp [execOp, he.ev hx, Sem.run], h⟩
    · exact h.elim
  case h_3 s x f =>
    split at h
    · rename_i b o hx
      split at h
      · rename_i off ho
        refine ⟨_, fun w => ?_, h⟩
        simp only [execOp, he.ev hx]
        have := run_value (fo_spec TO.fo ho ⟨b, o, none⟩ w)
        have e : (⟨b, o, none⟩ : Addr).add off = ⟨b, o + off, none⟩ := by unfold Addr.add; split <;> simp_all
        rw [e] at this
        exact this
      · exact h.elim
    · exact h.elim
  case h_4 x i =>
    split at h
    · rename_i vs hx
      split at h
      · rename_i v hv
        have hv' : vs[i]? = some v := by rw [← Array.getElem?_toList]; exact hv
        exact ⟨v, fun w => by simp [execOp, he.ev hx, Instr.extract, hv', Sem.run], h⟩
      · exact h.elim
    · exact h.elim
  case h_5 => exact h.elim
theorem stepOp_sound (TO : TabOk P T) {n : Nat} {full : List Oper} {K : Env → Hs → Prop} {Q : Exit → Act → World → Prop} {i : Nat} {o : Oper} (ho : lgetO full i = some o)
    {ih : (Env → Hs → Prop) → Env → Hs → Prop} {Kw : Act → World → Prop} {env : Env} {L : Hs} {a : Act} {w : World}
    (hk : ∀ env' L' v w', ih K env' L' → ER n env' (a.put o.dst v) → Hp w0 I w' L' → Kw (a.put o.dst v) w')
    (h : stepOp P w0 I T n full o ih K env L) (he : ER n env a) (hw : Hp w0 I w L) : wpOp P full.toArray Q i Kw a w := by
  have h1 : full.toArray[i]? = some o := by simpa [lgetO_eq] using ho
  have hstep : ∀ {env0 : Env} {L0 : Hs} {v : Value} {w' : World}, ER n env0 a → Hp w0 I w' L0 → bindTo n env0 o.dst v (fun env' => ih K env' L0) → Kw (a.put o.dst v) w' := by
    intro env0 L0 v w' he0 hw' hb
    obtain ⟨env', he', hkk⟩ := bindTo_sound he0 hb
    exact hk env' L0 v w' hkk he' hw'
  unfold wpOp
  rw [h1]
  dsimp only
  unfold stepOp at h
  split at h
  · rename_i hg
    rw [if_pos (by simp [Region.wanted, hg])]
    exact .inl (wop_sound TO he h hw (fun v w' L' hp hk => hstep he hp hk))
  · rename_i j want hg
    split at h
    · exact h.elim
    · rename_i g hgo
      split at h
      · exact h.elim
      · rename_i d hd
        split at h
        · rename_i b hb
          have hy := yielded_of he hgo hd hb
          have hkn := he.know hb
          split at h
          · obtain ⟨ht, hf⟩ := h
            cases b with
            | true =>
              have h := ht rfl
              rw [if_pos (by simp [Region.wanted, hg, hy])]
              exact .inl (wop_sound TO hkn h hw (fun v w' L' hp hk => hstep hkn hp hk))
            | false =>
              have h := hf rfl
              rw [if_neg (by simp [Region.wanted, hg, hy])]
              exact hstep hkn hw h
          · obtain ⟨ht, hf⟩ := h
            cases b with
            | true =>
              have h := ht rfl
              rw [if_neg (by simp [Region.wanted, hg, hy])]
              exact hstep hkn hw h
            | false =>
              have h := hf rfl
              rw [if_pos (by simp [Region.wanted, hg, hy])]
              exact .inl (wop_sound TO hkn h hw (fun v w' L' hp hk => hstep hkn hp hk))
        · rename_i vs hb
          have hy := yielded_of he hgo hd hb
          rw [if_neg (by simp [Region.wanted, hg, hy])]
          exact hstep he hw h
        · exact h.elim
/-- No panic. -/
def noPanic (Q : Exit → Act → World → Prop) : Exit → Act → World → Prop
  | .panic _, _, _ => False
  | e, a, w => Q e a w
theorem vPlan_sound (TO : TabOk P T) {n : Nat} {full : List Oper} {K : Env → Hs → Prop} {Q : Exit → Act → World → Prop} (D : List Nat) (hD : ∀ o, o ∈ full → ∀ d, o.dst = some d → d ∈ D) (hs : Region.noSelect full.toArray = true) {a0 : Act}
    (hQ : ∀ env' L' a' w', K env' L' → ER n env' a' → Hp w0 I w' L' → (∀ i, i ∉ D → a'.tmps[i]? = a0.tmps[i]?) → Q .normal a' w') : ∀ (p : Plan),
    (∀ (f : Nat) (ls : Array Bool) env L a w, planB full.toArray p false f ls = true → vPlan P w0 I T n full p K env L → ER n env a → Hp w0 I w L → (∀ i, i ∉ D → a.tmps[i]? = a0.tmps[i]?) → wpAny P .any full.toArray (noPanic Q) f ls a w) ∧
    (∀ (f : Nat) (ls : Array Bool) env L a w, planB full.toArray p true (f + 1) ls = true → vPlan P w0 I T n full p K env L → ER n env a → Hp w0 I w L → (∀ i, i ∉ D → a.tmps[i]? = a0.tmps[i]?) →
      ∀ i, i ∈ p.idx → wpOp P full.toArray (noPanic Q) i (wpAny P .any full.toArray (noPanic Q) f (ls.setIfInBounds i true)) a w) := by
  have hput : ∀ {o : Oper} {a : Act} {v : Value}, o ∈ full → (∀ i, i ∉ D → a.tmps[i]? = a0.tmps[i]?) → (∀ i, i ∉ D → (a.put o.dst v).tmps[i]? = a0.tmps[i]?) := by
    intro o a v ho ha i hi
    rw [put_other (i := i) (fun x hx hix => hi (by rw [hix]; exact hD o ho x hx))]
    exact ha i hi
  have hmem : ∀ {i : Nat} {o : Oper}, lgetO full i = some o → o ∈ full := by
    intro i o h
    rw [lgetO_eq] at h
    exact List.mem_iff_getElem?.2 ⟨i, h⟩
  -- one operation, then the plan behind it
  have hone : ∀ {i : Nat} {p : Plan} {f : Nat} {ls : Array Bool} {env : Env} {L : Hs} {a : Act} {w : World},
      (∀ (f : Nat) (ls : Array Bool) env L a w, planB full.toArray p false f ls = true → vPlan P w0 I T n full p K env L → ER n env a → Hp w0 I w L → (∀ i, i ∉ D → a.tmps[i]? = a0.tmps[i]?) → wpAny P .any full.toArray (noPanic Q) f ls a w) →
      planB full.toArray p false f (ls.setIfInBounds i true) = true →
      (match lgetO full i with | some o => stepOp P w0 I T n full o (vPlan P w0 I T n full p) K env L | none => False) → ER n env a → Hp w0 I w L → (∀ i, i ∉ D → a.tmps[i]? = a0.tmps[i]?) →
      wpOp P full.toArray (noPanic Q) i (wpAny P .any full.toArray (noPanic Q) f (ls.setIfInBounds i true)) a w := by
    intro i p f ls env L a w ih hB h he hw ha
    split at h
    · rename_i o ho
      exact stepOp_sound TO ho (fun env' L' v w' hk he' hw' => ih f _ env' L' _ w' hB hk he' hw' (hput (hmem ho) ha)) h he hw
    · exact h.elim
  intro p
  induction p with
  | done =>
    refine ⟨fun f ls env L a w hB h he hw ha => ?_, fun f ls env L a w hB h he hw ha i hi => by simp [Plan.idx] at hi⟩
    simp only [planB, Bool.not_false, Bool.true_and, List.isEmpty_iff] at hB
    exact wpAny_done (Q := noPanic Q) hB (show noPanic Q .normal a w from hQ env L a w h he hw ha) f
  | take i p ih =>
    refine ⟨fun f ls env L a w hB h he hw ha => ?_, fun f ls env L a w hB h he hw ha i hi => by simp [Plan.idx] at hi⟩
    cases f with
    | zero => simp [planB] at hB
    | succ f =>
      simp only [planB, Bool.not_false, Bool.true_and, Bool.and_eq_true] at hB
      replace h : (match lgetO full i with | some o => stepP n T o (vPlan P w0 I T n full p) K env L | none => False) := h
      split at h
      · rename_i o ho
        have h1 : full.toArray[i]? = some o := by simpa [lgetO_eq] using ho
        unfold stepP at h
        split at h
        · rename_i hg
          obtain ⟨v, hv, hb⟩ := pop_sound TO he h
          obtain ⟨env', he', hk⟩ := bindTo_sound he hb
          exact wpAny_take h1 hs hB.1.2 hB.1.1 (fun _ _ _ hp => hp.elim) (.inl ⟨by simp [Region.wanted, hg], hv⟩) (ih.1 f _ env' L _ w hB.2 hk he' hw (hput (hmem ho) ha))
        · exact h.elim
      · exact h.elim
  | one i p ih =>
    refine ⟨fun f ls env L a w hB h he hw ha => ?_, fun f ls env L a w hB h he hw ha j hj => ?_⟩
    · cases f with
      | zero => simp [planB] at hB
      | succ f =>
        simp only [planB, Bool.false_or, Bool.and_eq_true, decide_eq_true_eq] at hB
        refine wpAny_all hB.1 (by simp) (fun j hj => ?_)
        obtain rfl : j = i := by simpa using hj
        exact hone ih.1 hB.2 h he hw ha
    · simp only [planB, Bool.true_or, Bool.true_and] at hB
      obtain rfl : j = i := by simpa [Plan.idx] using hj
      exact hone ih.1 hB h he hw ha
  | fork i p r ihp ihr =>
    refine ⟨fun f ls env L a w hB h he hw ha => ?_, fun f ls env L a w hB h he hw ha j hj => ?_⟩
    · cases f with
      | zero => simp [planB] at hB
      | succ f =>
        simp only [planB, Bool.false_or, Bool.and_eq_true, decide_eq_true_eq] at hB
        obtain ⟨hA, hR⟩ := h
        refine wpAny_all hB.1.1 (by simp) (fun j hj => ?_)
        rcases List.mem_cons.1 hj with rfl | hj
        · exact hone ihp.1 hB.1.2 hA he hw ha
        · exact ihr.2 f ls env L a w hB.2 hR he hw ha j hj
    · simp only [planB, Bool.true_or, Bool.true_and, Bool.and_eq_true] at hB
      obtain ⟨hA, hR⟩ := h
      simp only [Plan.idx] at hj
      rcases List.mem_cons.1 hj with rfl | hj
      · exact hone ihp.1 hB.1 hA he hw ha
      · exact ihr.2 f ls env L a w hB.2 hR he hw ha j hj

/-! the first operations turn nothing: whichever comes first, they may be taken as they stand -/
theorem tail_rests {ops : Array Oper} {n : Nat} {ls : Array Bool} (hs : Region.sinkB .any ops n = true) (hb : behindB ops n = true) (inv : HeadInv .any ops n ls) (hu : ∃ i, i < n ∧ ls.getD i true = false) (t : Nat) (ht : n ≤ t) : t ∉ Region.ready .any ops ls := by
  intro hr
  obtain ⟨_, ot, hot, hall⟩ := mem_ready.1 hr
  have hlt : t < ops.size := (Array.getElem?_eq_some_iff.1 hot).1
  rcases Nat.lt_or_ge n t with h1 | h1
  · have h2 := List.all_eq_true.1 hb t (List.mem_range.2 hlt)
    simp only [Bool.or_eq_true, decide_eq_true_eq] at h2
    rcases h2 with h2 | h2
    · omega
    · obtain ⟨j, hj, h3⟩ := List.any_eq_true.1 h2
      have hj := List.mem_range.1 hj
      simp only [Bool.and_eq_true, decide_eq_true_eq] at h3
      obtain ⟨o', ho', e, he, hbd, hon⟩ := Region.waitsFor_spec h3.2
      obtain rfl : o' = ot := Option.some.inj (ho'.symm.trans hot)
      have h4 := hall e he hbd
      rw [hon, getD_both (inv.tail j h3.1 (by omega))] at h4
      cases h4
  · obtain rfl : t = n := by omega
    -- who is not listed lies below one that is not listed either, up to the n-th
    have key : ∀ (d i : Nat), t - i = d → i < t → ls.getD i true = false → False := by
      intro d
      induction d using Nat.strongRecOn with
      | _ d ih =>
        intro i hd hi hun
        obtain ⟨j, hj, hj2⟩ := List.any_eq_true.1 (List.all_eq_true.1 hs i (List.mem_range.2 hi))
        have hj := List.mem_range.1 hj
        simp only [Bool.and_eq_true, decide_eq_true_eq] at hj2
        obtain ⟨oj, hoj, e, he, hbd, hon⟩ := Region.waitsFor_spec hj2.2
        rcases Nat.lt_or_ge j t with hjt | hjt
        · cases hl : ls.getD j false with
          | true =>
            have h2 := inv.closed j oj hoj hl e he hbd
            rw [hon, getD_both hun] at h2
            cases h2
          | false => exact ih (t - j) (by omega) j rfl hjt (getD_in (by rw [inv.size]; omega) hl)
        · obtain rfl : j = t := by omega
          obtain rfl : oj = ot := Option.some.inj (hoj.symm.trans hot)
          have h2 := hall e he hbd
          rw [hon, getD_both hun] at h2
          cases h2
    obtain ⟨i, hi, hun⟩ := hu
    exact key _ i rfl hi hun
theorem head_one {ops : Array Oper} {w : World} {n i : Nat} {oi : Oper} {v : Value} {R : Array Bool → Act → Prop} (hi : ops[i]? = some oi) (hsel : ∀ (j : Nat) (o : Oper) cs b, ops[j]? = some o → o.op ≠ .select cs b)
    (hs : Region.sinkB .any ops n = true) (hb : behindB ops n = true) (hin : i < n) (hR : ∀ ls a, R ls a → ∀ j, j ∈ Region.ready .any ops ls → n ≤ j) :
    ∀ (f : Nat) (ls : Array Bool) (a : Act), HeadInv .any ops n ls →
      (∀ j oj, ops[j]? = some oj → j ≠ i → ls.getD j true = false → (∀ e ∈ oj.after, Region.binds .any e = true → e.on ≠ i) → oi.apart ops oj = true) →
      i ∈ Region.ready .any ops ls → YieldsAt P ops w oi v a →
      wpAnyL P .any ops w n R f (ls.setIfInBounds i true) (a.put oi.dst v) → wpAnyL P .any ops w n R (f + 1) ls a := by
  intro f
  induction f with
  | zero =>
    intro ls a inv _ hr hy H
    refine ⟨List.ne_nil_of_mem hr, fun j hj => ?_⟩
    have hjn : j < n := Nat.lt_of_not_le (fun h => tail_rests hs hb inv ⟨i, hin, (mem_ready.1 hr).1⟩ j h hj)
    by_cases hji : j = i
    · subst hji; exact ⟨hjn, hy.stOp hi H⟩
    · exact absurd (hR _ _ H j (ready_mono hj hji)) (by omega)
  | succ f ih =>
    intro ls a inv hfree hr hy H
    refine ⟨List.ne_nil_of_mem hr, fun j hj => ?_⟩
    have hjn : j < n := Nat.lt_of_not_le (fun h => tail_rests hs hb inv ⟨i, hin, (mem_ready.1 hr).1⟩ j h hj)
    by_cases hji : j = i
    · subst hji; exact ⟨hjn, hy.stOp hi H⟩
    · obtain ⟨hjun, oj, hoj, hall⟩ := mem_ready.1 hj
      have hno : ∀ e ∈ oj.after, Region.binds .any e = true → e.on ≠ i := fun e he hbd heq => by
        have h1 := hall e he hbd
        rw [heq, getD_both (mem_ready.1 hr).1] at h1
        cases h1
      refine ⟨hjn, stOp_mono (fun a' h3 => ih (ls.setIfInBounds j true) a' (inv.set hj hjn) (fun k ok hk hki hun hno' => hfree k ok hk hki ?_ hno') (ready_mono hr (Ne.symm hji)) h3.1 ?_)
        (stOp_put hoj (hfree j oj hoj hji hjun hno) (fun cs b => hsel i oi cs b hi) (fun cs b => hsel j oj cs b hoj) hy (H.2 j (ready_mono hj hji)).2)⟩
      · by_cases hjk : j = k
        · subst hjk; exact hjun
        · rwa [getD_set_ne true hjk] at hun
      · rw [Array.setIfInBounds_comm _ _ hji]
        exact h3.2
theorem head_all {ops : Array Oper} {w : World} {n : Nat} {B : Array Bool → Bool} {Lq : Act → Prop} (hsel : Region.noSelect ops = true) (hs : Region.sinkB .any ops n = true) (hb : behindB ops n = true) (hn : n < ops.size) :
    ∀ (l : List Oper) (k : Nat) (ls : Array Bool) (a : Act), (∀ j, j < l.length → l[j]? = ops[k + j]?) → k + l.length = n → HeadInv .any ops n ls → (∀ i, i < k → ls.getD i false = true) →
    headB ops B l.length k ls = true → wpStill P ops w Lq l a →
    wpAnyL P .any ops w n (fun ls' a' => (∀ i, i < n → ls'.getD i false = true) ∧ B ls' = true ∧ Lq a') l.length ls a
  | [], k, ls, a, _, hk, _, hd, hB, h => ⟨fun i hi => hd i (by simp at hk; omega), hB, h⟩
  | o :: l, k, ls, a, hl, hk, inv, hd, hB, h => by
    have h0 : ops[k]? = some o := by simpa using (hl 0 (by simp)).symm
    simp only [List.length_cons, headB, Bool.and_eq_true] at hB
    have hkn : k < n := by simp only [List.length_cons] at hk; omega
    have hr : k ∈ Region.ready .any ops ls := by simpa using hB.1.1
    obtain ⟨v, hy, hK⟩ := yieldsAt_of_stOp h0 (show stOp P ops w k (wpStill P ops w Lq l) a by unfold stOp; simp only [h0]; exact h)
    refine head_one h0 (Region.noSelect_spec hsel) hs hb hkn (fun ls' a' hR j hj => ?_) l.length ls a inv (Region.free_spec h0 hB.1.2) hr hy
      (head_all hsel hs hb hn l (k + 1) _ _ (fun j hj => by have := hl (j + 1) (by simp; omega); simpa [Nat.add_assoc, Nat.add_comm 1 j] using this) (by simp only [List.length_cons] at hk; omega) (inv.set hr hkn) ?_ hB.2 hK)
    · refine Nat.le_of_not_lt (fun hjn => ?_)
      have h1 := hR.1 j hjn
      rw [getD_both (mem_ready.1 hj).1] at h1
      cases h1
    · intro i hi
      by_cases hik : k = i
      · subst hik
        have : k < ls.size := by rw [inv.size]; omega
        simp [this]
      · rw [getD_set_ne false hik]
        exact hd i (by omega)
theorem Dr_sound (TO : TabOk P T) {n id : Nat} {ops : Array Oper} {K : Env → Hs → Prop} {Q : Exit → Act → World → Prop} {env : Env} {L : Hs} {a : Act} {w : World}
    (hQ : ∀ env' L' a' w', K env' L' → ER n env' a' → Hp w0 I w' L' → (∀ i, i ∉ dstsOps ops.toList → a'.tmps[i]? = a.tmps[i]?) → Q .normal a' w')
    (h : Dr P w0 I T n ops.toList K env L) (he : ER n env a) (hw : Hp w0 I w L) : (Code.region id ops true).wp P Q a w := by
  have hw1 := hw.drawn (w.drawn + 1)
  cases h with
  | mk m hB h =>
    have := wp_region_still_tail (P := P) (id := id) (Q := Q) (a := a) (w := w) (l := ops.toList) m TO.mixed hB ?_
    · simpa using this
    · refine vcQs_sound TO (dstsOps ops.toList) (w := { w with drawn := w.drawn + 1 }) (K := fun env' => vcOps P w0 I T n ops.toList (ops.toList.drop m) K env' L) (ops.toList.take m) env L a (fun o ho d hd => mem_dstsOps (List.mem_of_mem_take ho) hd) ?_ h he hw1
      intro env' a' hk he' hag
      refine vcOps_sound TO (dstsOps ops.toList) (ops.toList.drop m) env' L a' _ (fun o ho d hd => mem_dstsOps (List.mem_of_mem_drop ho) hd) ?_ hk he' hw1
      intro env2 L2 a2 w2 hk2 he2 hw2 hag2
      exact hQ env2 L2 a2 w2 hk2 he2 hw2 (fun i hi => (hag2 i hi).trans (hag i hi))
  | mp m p hB h =>
    simp only [headPlanB, Bool.and_eq_true, decide_eq_true_eq] at hB
    obtain ⟨⟨⟨⟨hsel, hn⟩, hs⟩, hb⟩, hlex⟩ := hB
    have htl : (ops.toList.take m).length = m := by simp at hn ⊢; omega
    have hst := vcQs_sound TO (dstsOps ops.toList) (w := { w with drawn := w.drawn + 1 }) (K := fun env' => vPlan P w0 I T n ops.toList p K env' L) (Q := fun a' => ∃ env', vPlan P w0 I T n ops.toList p K env' L ∧ ER n env' a' ∧ (∀ i, i ∉ dstsOps ops.toList → a'.tmps[i]? = a.tmps[i]?))
      (ops.toList.take m) env L a (fun o ho d hd => mem_dstsOps (List.mem_of_mem_take ho) hd) (fun env' a' hk he' hag => ⟨env', hk, he', hag⟩) h he hw1
    have inv0 : HeadInv .any ops.toList.toArray m (Array.replicate ops.toList.toArray.size false) :=
      ⟨by simp, fun j oj _ hl => (by rw [getD_replicate_false] at hl; cases hl), fun t _ ht => getD_in (by simpa using ht) (getD_replicate_false _ _)⟩
    have H := head_all hsel hs hb hn (ops.toList.take m) 0 _ a (fun j hj => by
      have hj' : j < m := by rw [htl] at hj; exact hj
      simp [hj']) (by rw [htl]; omega) inv0 (fun i hi => by omega) (by rw [htl]; exact hlex) hst
    have h2 := wpAny_of_head (Q' := noPanic Q) (g := ops.toList.toArray.size - m) (fun ls a' hL => by
      obtain ⟨-, hp, env', hk, he', hag⟩ := hL
      exact (vPlan_sound TO (Q := Q) (a0 := a) (dstsOps ops.toList) (fun o ho d hd => mem_dstsOps ho hd) hsel hQ p).1 _ _ env' L a' _ hp hk he' hw1 hag) _ _ _ H
    rw [htl, show m + (ops.toList.toArray.size - m) = ops.toList.toArray.size by omega] at h2
    have h3 : (Code.region id ops true).wp P (noPanic Q) a w := wp_region_any TO.mixed (by simpa using h2)
    refine Code.wp_mono ?_ h3
    rintro e a' w' hq
    cases e with
    | panic c => exact hq.elim
    | _ => exact hq
  | any p hB h =>
    simp only [Bool.and_eq_true] at hB
    have h2 := (vPlan_sound TO (Q := Q) (a0 := a) (dstsOps ops.toList) (fun o ho d hd => mem_dstsOps ho hd) hB.1 hQ p).1 _ _ env L a { w with drawn := w.drawn + 1 } hB.2 h he hw1 (fun _ _ => rfl)
    have h3 : (Code.region id ops true).wp P (noPanic Q) a w := wp_region_any TO.mixed (by simpa using h2)
    refine Code.wp_mono ?_ h3
    rintro e a' w' hq
    cases e with
    | panic c => exact hq.elim
    | _ => exact hq
  | all hB h =>
    have := wp_region_still_lit (P := P) (id := id) (Q := Q) (a := a) (w := w) (l := ops.toList) TO.mixed hB ?_
    · simpa using this
    · refine vcQs_sound TO (dstsOps ops.toList) (w := { w with drawn := w.drawn + 1 }) (K := fun env' => K env' L) ops.toList env L a (fun o ho d hd => mem_dstsOps ho hd) ?_ h he hw1
      intro env' a' hk he' hag
      exact hQ env' L a' _ hk he' hw1 hag

theorem getAll_get {env : Env} : ∀ {S : List Nat} {vs : List Value}, getAll env S = some vs → ∀ (k i : Nat), S[k]? = some i → ∃ v, vs[k]? = some v ∧ get env i = some v
  | [], vs, h, k, i, hk => by simp at hk
  | s :: r, vs, h, k, i, hk => by
    simp only [getAll] at h
    split at h
    · rename_i v hv
      split at h
      · rename_i l hl
        simp at h
        subst h
        cases k with
        | zero => simp at hk; subst hk; exact ⟨v, by simp, hv⟩
        | succ k => simp at hk; simpa using getAll_get hl k i hk
      · simp at h
    · simp at h

/-- What is known of a frame whose slots S hold vs. -/
theorem ER_zip {n : Nat} {env0 : Env} {a : Act} (h0 : ER n env0 a) : ∀ {S : List Nat} {vs : List Value}, (∀ (k i : Nat) (v : Value), S[k]? = some i → vs[k]? = some v → a.tmps[i]? = some v) → ER n (zipE S vs env0) a
  | [], vs, h => by simpa [zipE] using h0
  | s :: r, [], h => by simpa [zipE] using h0
  | s :: r, v :: vs, h => by
    have ih := ER_zip h0 (S := r) (vs := vs) (fun k i u hk hu => h (k + 1) i u (by simpa using hk) (by simpa using hu))
    simp only [zipE]
    refine ⟨ih.defers, ih.size, fun i u hu => ?_⟩
    simp only [Vc.get] at hu
    split at hu
    · rename_i hb
      have : i = s := by simpa using hb
      subst this
      simp at hu
      subst hu
      exact h 0 i v (by simp) (by simp)
    · exact ih.get i u hu

theorem memB_spec : ∀ {D : List Nat} {i : Nat}, memB i D = false → i ∉ D
  | [], i, _ => by simp
  | j :: r, i, h => by
    simp only [memB] at h
    split at h
    · simp at h
    · rename_i hb
      have : i ≠ j := by
        intro he
        subst he
        simp at hb
      simp [this, memB_spec h]

theorem disj_spec : ∀ {S D : List Nat}, disj S D = true → ∀ i, i ∈ S → i ∉ D
  | [], D, _, i, hi => by simp at hi
  | s :: r, D, h, i, hi => by
    simp only [disj] at h
    split at h
    · simp at h
    · rename_i hb
      rcases List.mem_cons.1 hi with rfl | hi
      · exact memB_spec (by simpa using hb)
      · exact disj_spec h i hi

theorem Hp.pre {w : World} {L1 L2 : Hs} (h : Hp w0 I w L2) (hp : Pre L1 L2) : Hp w0 I w L1 := by
  obtain ⟨r, rfl⟩ := hp
  exact ⟨h.size, h.os, h.tape, h.output, (List.nodup_append.1 (by simpa using h.nodup)).1, fun e he => h.cells e (List.mem_append_left _ he), fun e he => h.own e (List.mem_append_left _ he), h.rest⟩

theorem sel_get {L : Hs} : ∀ {is : List Nat} {Lc : Hs}, sel L is = some Lc → ∀ e, e ∈ Lc → ∃ i, i ∈ is ∧ L[i]? = some e
  | [], Lc, h, e, he => by simp [sel] at h; subst h; simp at he
  | i :: r, Lc, h, e, he => by
    simp only [sel] at h
    split at h
    · rename_i x hx
      split at h
      · rename_i l hl
        simp at h
        subst h
        rcases List.mem_cons.1 he with rfl | he
        · exact ⟨i, by simp, hx⟩
        · obtain ⟨j, hj, h2⟩ := sel_get hl e he
          exact ⟨j, by simp [hj], h2⟩
      · simp at h
    · simp at h

theorem sel_at {L : Hs} : ∀ {is : List Nat} {Lc : Hs}, sel L is = some Lc → ∀ i, i ∈ is → ∃ e, e ∈ Lc ∧ L[i]? = some e
  | [], Lc, h, i, hi => by simp at hi
  | j :: r, Lc, h, i, hi => by
    simp only [sel] at h
    split at h
    · rename_i x hx
      split at h
      · rename_i l hl
        simp at h
        subst h
        rcases List.mem_cons.1 hi with rfl | hi
        · exact ⟨x, by simp, hx⟩
        · obtain ⟨e, he, h2⟩ := sel_at hl i hi
          exact ⟨e, by simp [he], h2⟩
      · simp at h
    · simp at h

theorem memB_spec' : ∀ {D : List Nat} {i : Nat}, memB i D = true → i ∈ D
  | [], i, h => by simp [memB] at h
  | j :: r, i, h => by
    simp only [memB] at h
    split at h
    · rename_i hb
      have : i = j := by simpa using hb
      simp [this]
    · exact List.mem_cons_of_mem _ (memB_spec' h)

theorem sel_nodup {L : Hs} (hn : (L.map Ent.b).Nodup) : ∀ {is : List Nat} {Lc : Hs}, sel L is = some Lc → uniq is = true → (Lc.map Ent.b).Nodup
  | [], Lc, h, _ => by simp [sel] at h; subst h; simp
  | j :: r, Lc, h, hu => by
    simp only [uniq] at hu
    split at hu
    · simp at hu
    · rename_i hj
      simp only [sel] at h
      split at h
      · rename_i x hx
        split at h
        · rename_i l hl
          simp at h
          subst h
          rw [List.map_cons, List.nodup_cons]
          refine ⟨?_, sel_nodup hn hl hu⟩
          intro hm
          obtain ⟨e, he, heb⟩ := List.mem_map.1 hm
          obtain ⟨i, hi, hie⟩ := sel_get hl e he
          have hne : i ≠ j := by
            rintro rfl
            exact memB_spec (by simpa using hj) hi
          exact nodup_ne hn hie hx hne heb
        · simp at h
      · simp at h

theorem Hp.subs {w : World} {L1 L2 : Hs} (h : Hp w0 I w L2) (hp : Sub L1 L2) : Hp w0 I w L1 := by
  obtain ⟨is, hs, hu⟩ := hp
  have hm : ∀ e, e ∈ L1 → e ∈ L2 := fun e he => by
    obtain ⟨i, _, hi⟩ := sel_get hs e he
    exact List.mem_iff_getElem?.2 ⟨i, hi⟩
  exact ⟨h.size, h.os, h.tape, h.output, sel_nodup h.nodup hs hu, fun e he => h.cells e (hm e he), fun e he => h.own e (hm e he), h.rest⟩

/-- A loop whose rounds lower a measure, told by a family of relations. -/
theorem loop_rel {P : Program} {c : Code} {α : Type} (Rel : α → Act → World → Prop) (μ : α → Nat) {Q : Exit → Act → World → Prop}
    (round : ∀ x a w, Rel x a w → c.wp P (Exit.then (fun a' w' => ∃ x', Rel x' a' w' ∧ μ x' < μ x) Q) a w) {x0 : α} {a : Act} {w : World} (h0 : Rel x0 a w) : (Code.loop c).wp P Q a w := by
  have hmin : ∀ {a' : Act} {w' : World}, (∃ x, Rel x a' w') → ∃ m, ∃ x, Rel x a' w' ∧ μ x = m ∧ ∀ y, Rel y a' w' → m ≤ μ y := by
    intro a' w' ⟨x, hx⟩
    have : ∀ m y, μ y = m → Rel y a' w' → ∃ m, ∃ x, Rel x a' w' ∧ μ x = m ∧ ∀ y, Rel y a' w' → m ≤ μ y := by
      intro m
      induction m using Nat.strongRecOn with
      | _ m ihm =>
        intro y hy hR
        by_cases hex : ∃ z, Rel z a' w' ∧ μ z < m
        · obtain ⟨z, hz, hlt⟩ := hex
          exact ihm _ hlt z rfl hz
        · refine ⟨m, y, hR, hy, fun z hz => ?_⟩
          rcases Nat.lt_or_ge (μ z) m with h | h
          · exact absurd ⟨z, hz, h⟩ hex
          · exact h
    exact this _ x rfl hx
  refine wp_loop (fun a' w' => ∃ x, Rel x a' w') (fun a' w' => (Classical.epsilon (fun m => ∃ x, Rel x a' w' ∧ μ x = m ∧ ∀ y, Rel y a' w' → m ≤ μ y))) ⟨x0, h0⟩ ?_
  intro a' w' hI
  obtain ⟨x, hx, hme, hle⟩ := Classical.epsilon_spec (hmin hI)
  refine Code.wp_mono ?_ (round x a' w' hx)
  intro e a2 w2 hk2
  cases e with
  | normal =>
    obtain ⟨x', hR', hlt⟩ := hk2
    refine ⟨⟨x', hR'⟩, ?_⟩
    obtain ⟨y, hy, hmy, hley⟩ := Classical.epsilon_spec (hmin ⟨x', hR'⟩)
    have := hley x' hR'
    omega
  | _ => exact hk2

theorem vc_sound (TO : TabOk P T) (n : Nat) : ∀ (c : Code) (k : Exit → Env → Hs → Prop) (env : Env) (L : Hs) (a : Act) (w : World),
    vc P w0 I T n c k env L → ER n env a → Hp w0 I w L →
    c.wp P (fun e a' w' => ∃ env' L', ER n env' a' ∧ Hp w0 I w' L' ∧ (∀ i, i ∉ dsts c → a'.tmps[i]? = a.tmps[i]?) ∧ k e env' L') a w := by
  intro c
  induction c with
  | skip => intro k env L a w h he hw; exact wp_skip ⟨env, L, he, hw, fun _ _ => rfl, h⟩
  | ret => intro k env L a w h he hw; exact wp_ret ⟨env, L, he, hw, fun _ _ => rfl, h⟩
  | exit id => intro k env L a w h he hw; exact wp_exit ⟨env, L, he, hw, fun _ _ => rfl, h⟩
  | seq x y ihx ihy =>
    intro k env L a w h he hw
    refine wp_seq (Code.wp_mono ?_ (ihx _ env L a w h he hw))
    rintro e a1 w1 ⟨env1, L1, he1, hw1, hag1, hk⟩
    have hag1' : ∀ i, i ∉ dsts x ++ dsts y → a1.tmps[i]? = a.tmps[i]? := fun i hi => hag1 i (fun h => hi (List.mem_append_left _ h))
    cases e with
    | normal =>
      refine Code.wp_mono ?_ (ihy k env1 L1 a1 w1 hk he1 hw1)
      rintro e a2 w2 ⟨env2, L2, he2, hw2, hag2, hk2⟩
      exact ⟨env2, L2, he2, hw2, fun i hi => (hag2 i (fun h => hi (List.mem_append_right _ h))).trans (hag1' i hi), hk2⟩
    | _ => exact ⟨env1, L1, he1, hw1, hag1', hk⟩
  | cond c x y ihx ihy =>
    intro k env L a w h he hw
    replace h : vCond c (vc P w0 I T n x) (vc P w0 I T n y) k env L := h
    unfold vCond at h
    have hx : ∀ {env0 : Env}, ER n env0 a → vc P w0 I T n x k env0 L → x.wp P (fun e a' w' => ∃ env' L', ER n env' a' ∧ Hp w0 I w' L' ∧ (∀ i, i ∉ dsts x ++ dsts y → a'.tmps[i]? = a.tmps[i]?) ∧ k e env' L') a w := by
      intro env0 he0 h0
      refine Code.wp_mono ?_ (ihx k env0 L a w h0 he0 hw)
      rintro e a1 w1 ⟨env1, L1, he1, hw1, hag1, hk⟩
      exact ⟨env1, L1, he1, hw1, fun i hi => hag1 i (fun h => hi (List.mem_append_left _ h)), hk⟩
    have hy : ∀ {env0 : Env}, ER n env0 a → vc P w0 I T n y k env0 L → y.wp P (fun e a' w' => ∃ env' L', ER n env' a' ∧ Hp w0 I w' L' ∧ (∀ i, i ∉ dsts x ++ dsts y → a'.tmps[i]? = a.tmps[i]?) ∧ k e env' L') a w := by
      intro env0 he0 h0
      refine Code.wp_mono ?_ (ihy k env0 L a w h0 he0 hw)
      rintro e a1 w1 ⟨env1, L1, he1, hw1, hag1, hk⟩
      exact ⟨env1, L1, he1, hw1, fun i hi => hag1 i (fun h => hi (List.mem_append_right _ h)), hk⟩
    split at h
    · rename_i d
      split at h
      · rename_i b hb
        have hev : a.eval (.tmp d) = .bool b := he.ev (x := .tmp d) hb
        have hkn := he.know hb
        obtain ⟨ht, hf⟩ := h
        cases b with
        | true => have h := ht rfl; exact wp_cond_true hev (hx hkn h)
        | false => have h := hf rfl; exact wp_cond_false hev (hy hkn h)
      · exact h.elim
    · rename_i b
      have hev : a.eval (.const (.bool b)) = .bool b := rfl
      obtain ⟨ht, hf⟩ := h
      cases b with
      | true => have h := ht rfl; exact wp_cond_true hev (hx he h)
      | false => have h := hf rfl; exact wp_cond_false hev (hy he h)
    · exact h.elim
  | block id c ih =>
    intro k env L a w h he hw
    refine wp_block (Code.wp_mono ?_ (ih _ env L a w h he hw))
    rintro e a1 w1 ⟨env1, L1, he1, hw1, hag1, hk⟩
    cases e with
    | exit id' =>
      simp only [Exit.inBlock]
      dsimp only at hk
      split at hk
      · rename_i hb
        rw [if_pos (by simpa using hb)]
        exact ⟨env1, L1, he1, hw1, hag1, hk⟩
      · rename_i hb
        rw [if_neg (by intro h; subst h; simp at hb)]
        exact ⟨env1, L1, he1, hw1, hag1, hk⟩
    | _ => exact ⟨env1, L1, he1, hw1, hag1, hk⟩
  | loop c ih =>
    intro k env L a w h he hw
    replace h : Lp (dsts c) (vc P w0 I T n c) k env L := h
    revert a w
    induction h with
    | mk S Kp kv vals hp Inv μ hk hd x0 h0 hv hl step =>
      intro a w he hw
      have kept : ∀ {a' : Act}, a'.defers = [] → a'.tmps.size = n → (∀ i, i ∉ dsts c → a'.tmps[i]? = a.tmps[i]?) → ER n (zipE Kp kv []) a' := by
        intro a' hdf hsz hag
        refine ER_zip (ER.nil hdf hsz) (fun j i v hj hv => ?_)
        obtain ⟨v', hv', hg⟩ := getAll_get hk j i hj
        rw [hv] at hv'
        simp at hv'
        subst hv'
        rw [hag i (disj_spec hd i (List.mem_iff_getElem?.2 ⟨j, hj⟩))]
        exact he.get i v hg
      refine loop_rel (fun x a' w' => Inv x ∧ a'.defers = [] ∧ a'.tmps.size = n ∧ (∀ i, i ∉ dsts c → a'.tmps[i]? = a.tmps[i]?) ∧
        (∀ (j i : Nat) (v : Value), S[j]? = some i → (vals x)[j]? = some v → a'.tmps[i]? = some v) ∧ Hp w0 I w' (hp x)) μ ?_ (x0 := x0) ⟨h0, he.defers, he.size, fun _ _ => rfl, fun j i v hj hvj => ?_, hw.pre hl⟩
      · rintro x a' w' ⟨hIx, hdf, hsz, hag, hS, hwx⟩
        have hER : ER n (zipE S (vals x) (zipE Kp kv [])) a' := ER_zip (kept hdf hsz hag) hS
        refine Code.wp_mono ?_ (ih _ _ _ a' w' (step x hIx) hER hwx)
        rintro e a2 w2 ⟨env2, L2, he2, hw2, hag2, hk2⟩
        have hag3 : ∀ i, i ∉ dsts c → a2.tmps[i]? = a.tmps[i]? := fun i hi => (hag2 i hi).trans (hag i hi)
        cases e with
        | normal =>
          obtain ⟨x', hI', hlt, hv', hl'⟩ := hk2
          refine ⟨x', ⟨hI', he2.defers, he2.size, hag3, fun j i v hj hvj => ?_, hw2.pre hl'⟩, hlt⟩
          obtain ⟨v', hv2, hg⟩ := getAll_get hv' j i hj
          rw [hvj] at hv2
          simp at hv2
          subst hv2
          exact he2.get i v hg
        | _ => exact ⟨env2, L2, he2, hw2, hag3, hk2⟩
      · obtain ⟨v', hv2, hg⟩ := getAll_get hv j i hj
        rw [hvj] at hv2
        simp at hv2
        subst hv2
        exact he.get i v hg
    | sub S Kp kv vals hp Inv μ hk hd x0 h0 hv hl step =>
      intro a w he hw
      have kept : ∀ {a' : Act}, a'.defers = [] → a'.tmps.size = n → (∀ i, i ∉ dsts c → a'.tmps[i]? = a.tmps[i]?) → ER n (zipE Kp kv []) a' := by
        intro a' hdf hsz hag
        refine ER_zip (ER.nil hdf hsz) (fun j i v hj hv => ?_)
        obtain ⟨v', hv', hg⟩ := getAll_get hk j i hj
        rw [hv] at hv'
        simp at hv'
        subst hv'
        rw [hag i (disj_spec hd i (List.mem_iff_getElem?.2 ⟨j, hj⟩))]
        exact he.get i v hg
      refine loop_rel (fun x a' w' => Inv x ∧ a'.defers = [] ∧ a'.tmps.size = n ∧ (∀ i, i ∉ dsts c → a'.tmps[i]? = a.tmps[i]?) ∧
        (∀ (j i : Nat) (v : Value), S[j]? = some i → (vals x)[j]? = some v → a'.tmps[i]? = some v) ∧ Hp w0 I w' (hp x)) μ ?_ (x0 := x0) ⟨h0, he.defers, he.size, fun _ _ => rfl, fun j i v hj hvj => ?_, hw.subs hl⟩
      · rintro x a' w' ⟨hIx, hdf, hsz, hag, hS, hwx⟩
        have hER : ER n (zipE S (vals x) (zipE Kp kv [])) a' := ER_zip (kept hdf hsz hag) hS
        refine Code.wp_mono ?_ (ih _ _ _ a' w' (step x hIx) hER hwx)
        rintro e a2 w2 ⟨env2, L2, he2, hw2, hag2, hk2⟩
        have hag3 : ∀ i, i ∉ dsts c → a2.tmps[i]? = a.tmps[i]? := fun i hi => (hag2 i hi).trans (hag i hi)
        cases e with
        | normal =>
          obtain ⟨x', hI', hlt, hv', hl'⟩ := hk2
          refine ⟨x', ⟨hI', he2.defers, he2.size, hag3, fun j i v hj hvj => ?_, hw2.subs hl'⟩, hlt⟩
          obtain ⟨v', hv2, hg⟩ := getAll_get hv' j i hj
          rw [hvj] at hv2
          simp at hv2
          subst hv2
          exact he2.get i v hg
        | _ => exact ⟨env2, L2, he2, hw2, hag3, hk2⟩
      · obtain ⟨v', hv2, hg⟩ := getAll_get hv j i hj
        rw [hvj] at hv2
        simp at hv2
        subst hv2
        exact he.get i v hg
    | rounds m h =>
      intro a w he hw
      refine loop_rel (α := Nat × Env × Hs) (fun x a' w' => unr (vc P w0 I T n c) k x.1 x.2.1 x.2.2 ∧ ER n x.2.1 a' ∧ Hp w0 I w' x.2.2 ∧ (∀ i, i ∉ dsts c → a'.tmps[i]? = a.tmps[i]?)) (fun x => x.1) ?_ (x0 := (m, _, _)) ⟨h, he, hw, fun _ _ => rfl⟩
      rintro ⟨m, env1, L1⟩ a' w' ⟨h1, he1, hw1, hag⟩
      cases m with
      | zero => exact h1.elim
      | succ m =>
        refine Code.wp_mono ?_ (ih _ _ _ a' w' h1 he1 hw1)
        rintro e a2 w2 ⟨env2, L2, he2, hw2, hag2, hk2⟩
        have hag3 : ∀ i, i ∉ dsts c → a2.tmps[i]? = a.tmps[i]? := fun i hi => (hag2 i hi).trans (hag i hi)
        cases e with
        | normal => exact ⟨(m, env2, L2), ⟨hk2, he2, hw2, hag3⟩, Nat.lt_succ_self m⟩
        | _ => exact ⟨env2, L2, he2, hw2, hag3, hk2⟩
    | prune S vs L' hv hl h ih2 =>
      intro a w he hw
      refine ih2 a w (ER_zip (ER.nil he.defers he.size) (fun j i v hj hvj => ?_)) (hw.subs hl)
      obtain ⟨v', hv2, hg⟩ := getAll_get hv j i hj
      rw [hvj] at hv2
      simp at hv2
      subst hv2
      exact he.get i v hg
  | region id ops draw =>
    intro k env L a w h he hw
    replace h : vRegion P w0 I T n ops draw k env L := h
    unfold vRegion at h
    split at h
    · refine wp_region_list ?_
      have := vcOps_sound TO (n := n) (full := ops.toList) (K := fun env' L' => k .normal env' L') (Q := fun e a' w' => ∃ env' L', ER n env' a' ∧ Hp w0 I w' L' ∧ (∀ i, i ∉ dstsOps ops.toList → a'.tmps[i]? = a.tmps[i]?) ∧ k e env' L') (dstsOps ops.toList) ops.toList env L a w (fun o ho d hd => mem_dstsOps ho hd) (fun env' L' a' w' hk he' hw' hag => ⟨env', L', he', hw', hag, hk⟩) h he hw
      rw [Array.toArray_toList] at this
      exact this
    · exact Dr_sound TO (fun env' L' a' w' hk he' hw' hag => ⟨env', L', he', hw', hag, hk⟩) h he hw
  | scope c ih =>
    intro k env L a w h he hw
    refine wp_scope_straight (Code.wp_mono ?_ (ih _ env L a w h he hw))
    rintro e a1 w1 ⟨env1, L1, he1, hw1, hag1, hk⟩
    cases e with
    | goto l => exact hk.elim
    | _ => exact ⟨env1, L1, he1, hw1, hag1, hk⟩
  | label l => intro k env L a w h he hw; exact wp_label ⟨env, L, he, hw, fun _ _ => rfl, h⟩
  | _ => intro k env L a w h he hw; exact h.elim
end
end Vc
end Go.Proofs.Ytggbhokhibfdmaa
