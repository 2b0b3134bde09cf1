/- The steps over structs: built, compared, fields taken. Conditions: none. -/
import Derived.Test.YtggbhokhibfdmaaVf
set_option linter.unusedVariables false
set_option linter.unusedSimpArgs false
set_option linter.unusedSectionVars false
namespace Go.Proofs.Ytggbhokhibfdmaa
namespace Vc

/-! ### Structs compared -/
def tyd : List (Option IntKind) → List Value → Bool
  | [], [] => true
  | some k :: ks, .int k' _ :: vs => match Nat.beq (ikN k) (ikN k') with | true => tyd ks vs | false => false
  | none :: ks, .bool _ :: vs => tyd ks vs
  | _, _ => false
def EqP : List Value → List Value → Prop
  | .int _ a :: r, .int _ b :: s => a = b ∧ EqP r s
  | .bool a :: r, .bool b :: s => a = b ∧ EqP r s
  | _, _ => True
open Classical in
noncomputable def eqB (xs ys : List Value) : Bool := decide (EqP xs ys)
theorem eqB_true {xs ys : List Value} : eqB xs ys = true ↔ EqP xs ys := by simp [eqB]
theorem eqB_false {xs ys : List Value} : eqB xs ys = false ↔ ¬ EqP xs ys := by simp [eqB]
theorem gsplit.eq {xs ys : List Value} {X Y : Prop} (ht : EqP xs ys → X) (hf : ¬ EqP xs ys → Y) : gsplit (eqB xs ys) X Y := gsplit.split (fun h => ht (eqB_true.1 h)) (fun h => hf (eqB_false.1 h))
theorem gsplit.neq {xs ys : List Value} {X Y : Prop} (ht : ¬ EqP xs ys → X) (hf : EqP xs ys → Y) : gsplit (!eqB xs ys) X Y := gsplit.split (fun h => ht (eqB_false.1 (by simpa using h))) (fun h => hf (eqB_true.1 (by simpa using h)))

section
variable {P : Program} {w0 : World} {I : List Nat} {T : Tab} {L : Hs}

theorem eqFields_run (w : World) (d : Nat) : ∀ {fs : List Field} {ks : List (Option IntKind)} {i : Nat} (xs ys : Array Value), flFields P fs ks i = true → tyd ks (xs.toList.drop i) = true → tyd ks (ys.toList.drop i) = true →
    (Op.eqFields (d + 1) xs ys fs).run P w = .ok (eqB (xs.toList.drop i) (ys.toList.drop i)) w
  | [], [], i, xs, ys, _, hx, hy => by
    have : EqP (xs.toList.drop i) (ys.toList.drop i) := by
      cases h : xs.toList.drop i with
      | nil => simp [EqP]
      | cons a r => rw [h] at hx; simp [tyd] at hx
    simp [Op.eqFields, eqB_true.2 this, Sem.run]
  | f :: fs, [], i, xs, ys, h, _, _ => by simp [flFields] at h
  | [], k :: ks, i, xs, ys, h, _, _ => by simp [flFields] at h
  | f :: fs, k :: ks, i, xs, ys, h, hx, hy => by
    simp only [flFields, Bool.and_eq_true, Bool.not_eq_true', beq_eq_false_iff_ne, beq_iff_eq] at h
    obtain ⟨⟨⟨hn, ho⟩, hk⟩, hr⟩ := h
    subst ho
    have hdx : ∀ (zs : Array Value) z r, zs.toList.drop f.offset = z :: r → zs[f.offset]? = some z ∧ r = zs.toList.drop (f.offset + 1) := by
      intro zs z r hz
      refine ⟨?_, ?_⟩
      · have := congrArg (fun l => l[0]?) hz
        simpa using this
      · have := congrArg List.tail hz
        rw [List.tail_drop] at this
        simpa using this.symm
    split at hk
    · rename_i k' kk hu
      simp at hk
      subst hk
      cases hxx : xs.toList.drop f.offset with
      | nil => rw [hxx] at hx; simp [tyd] at hx
      | cons a r =>
      cases hyy : ys.toList.drop f.offset with
      | nil => rw [hyy] at hy; simp [tyd] at hy
      | cons b s =>
      rw [hxx] at hx
      rw [hyy] at hy
      cases a <;> simp [tyd] at hx
      cases b <;> simp [tyd] at hy
      rename_i ka a kb b
      split at hx <;> try (simp at hx; done)
      split at hy <;> try (simp at hy; done)
      obtain ⟨hx0, hx1⟩ := hdx xs _ _ hxx
      obtain ⟨hy0, hy1⟩ := hdx ys _ _ hyy
      subst hx1 hy1
      have ih := eqFields_run w d xs ys hr hx hy
      have hag : (isAgg f.type).run P w = .ok false w := by simp [isAgg, Sem.run_bind, run_underlying hu, Sem.run]
      have hkk : ka = kb := by
        rename_i hb1 _ hb2
        have h1 : ikN k' = ikN ka := by simpa using hb1
        have h2 : ikN k' = ikN kb := by simpa using hb2
        have h3 := h1.symm.trans h2
        cases ka <;> cases kb <;> first | rfl | (simp [ikN] at h3)
      subst hkk
      simp only [Op.eqFields, ne_eq, hn, not_false_eq_true, if_true, Sem.run_bind, part, hag, Result.andThen_ok, Bool.false_eq_true, if_false, hx0, hy0, Sem.run_pure, run_equalIn_int w d f.type ka k' a b hu]
      by_cases hab : a = b
      · subst hab
        simp only [beq_self_eq_true, Bool.not_true, Bool.false_eq_true, if_false, ih]
        congr 1
        rw [Bool.eq_iff_iff, eqB_true, eqB_true]
        simp [EqP]
      · have : (a == b) = false := by simpa using hab
        simp only [this, Bool.not_false, if_true, Sem.run_pure]
        congr 1
        symm
        rw [eqB_false]
        simp [EqP, hab]
    · rename_i hu
      cases hxx : xs.toList.drop f.offset with
      | nil => rw [hxx] at hx; simp [tyd] at hx
      | cons a r =>
      cases hyy : ys.toList.drop f.offset with
      | nil => rw [hyy] at hy; simp [tyd] at hy
      | cons b s =>
      rw [hxx] at hx
      rw [hyy] at hy
      cases a <;> simp [tyd] at hx
      cases b <;> simp [tyd] at hy
      rename_i a b
      obtain ⟨hx0, hx1⟩ := hdx xs _ _ hxx
      obtain ⟨hy0, hy1⟩ := hdx ys _ _ hyy
      subst hx1 hy1
      have ih := eqFields_run w d xs ys hr hx hy
      have hag : (isAgg f.type).run P w = .ok false w := by simp [isAgg, Sem.run_bind, run_underlying hu, Sem.run]
      simp only [Op.eqFields, ne_eq, hn, not_false_eq_true, if_true, Sem.run_bind, part, hag, Result.andThen_ok, Bool.false_eq_true, if_false, hx0, hy0, Sem.run_pure, run_equalIn_bool' w d f.type a b hu]
      by_cases hab : a = b
      · subst hab
        simp only [beq_self_eq_true, Bool.not_true, Bool.false_eq_true, if_false, ih]
        congr 1
        rw [Bool.eq_iff_iff, eqB_true, eqB_true]
        simp [EqP]
      · have : (a == b) = false := by simpa using hab
        simp only [this, Bool.not_false, if_true, Sem.run_pure]
        congr 1
        symm
        rw [eqB_false]
        simp [EqP, hab]
    · simp at hk

theorem equal_flat (TO : TabOk P T) {t : Nat} {ks : List (Option IntKind)} {xs ys : List Value} (hf : natAt T.fl t = some ks) (hx : tyd ks xs = true) (hy : tyd ks ys = true) (w : World) :
    (Op.equal t (.agg xs.toArray) (.agg ys.toArray)).run P w = .ok (eqB xs ys) w ∧ P.eqGuardType P.depth t = false := by
  have hk := List.all_eq_true.1 TO.fl _ (natAt_mem hf)
  unfold flOk at hk
  dsimp only at hk
  split at hk
  · rename_i fs hu
    simp only [Bool.and_eq_true, Bool.not_eq_true'] at hk
    obtain ⟨⟨hs, hg⟩, hfl⟩ := hk
    refine ⟨?_, hg⟩
    show (Op.equalIn (9999 + 1) t (.agg xs.toArray) (.agg ys.toArray)).run P w = _
    have hu' : P.fieldsOf t = fs := by simp [Program.fieldsOf, hu]
    rw [run_equalIn_struct w 9999 t _ _ (by rw [hu']; exact hu) hs, hu']
    have := eqFields_run (P := P) w 9998 xs.toArray ys.toArray hfl (by simpa using hx) (by simpa using hy)
    simpa using this
  · simp at hk

theorem YQ.eqF (TO : TabOk P T) {t : Nat} {x y : Operand} {ks : List (Option IntKind)} {xs ys : List Value} {K : Value → Prop} (hf : natAt T.fl t = some ks) (hx : tyd ks xs = true) (hy : tyd ks ys = true) (k : K (.bool (eqB xs ys))) :
    YQ P w0 I L (.bin .eql t x y (.agg xs.toArray) (.agg ys.toArray)) K :=
  ⟨_, fun w _ => by
    obtain ⟨h1, h2⟩ := equal_flat TO hf hx hy w
    show (do eqGuard .eql t x y (.agg xs.toArray) (.agg ys.toArray); binOp .eql t (.agg xs.toArray) (.agg ys.toArray) : Sem Value).run P w = _
    have : (eqGuard .eql t x y (.agg xs.toArray) (.agg ys.toArray)).run P w = .ok () w := by simp [eqGuard, program, Sem.run, h2]
    rw [Sem.run_bind, this]
    simp only [Result.andThen_ok, binOp, Sem.run_bind, h1, Sem.run_pure], k⟩
theorem YQ.neF (TO : TabOk P T) {t : Nat} {x y : Operand} {ks : List (Option IntKind)} {xs ys : List Value} {K : Value → Prop} (hf : natAt T.fl t = some ks) (hx : tyd ks xs = true) (hy : tyd ks ys = true) (k : K (.bool (!eqB xs ys))) :
    YQ P w0 I L (.bin .neq t x y (.agg xs.toArray) (.agg ys.toArray)) K :=
  ⟨_, fun w _ => by
    obtain ⟨h1, h2⟩ := equal_flat TO hf hx hy w
    show (do eqGuard .neq t x y (.agg xs.toArray) (.agg ys.toArray); binOp .neq t (.agg xs.toArray) (.agg ys.toArray) : Sem Value).run P w = _
    have : (eqGuard .neq t x y (.agg xs.toArray) (.agg ys.toArray)).run P w = .ok () w := by simp [eqGuard, program, Sem.run, h2]
    rw [Sem.run_bind, this]
    simp only [Result.andThen_ok, binOp, Sem.run_bind, h1, Sem.run_pure], k⟩

/-! ### Structs built -/
def splice (cs : List Value) (off : Nat) (vs : List Value) : List Value := cs.take off ++ vs ++ cs.drop (off + vs.length)
def bld (T : Tab) (t : Nat) : List (Nat × Value) → List Value → Option (List Value)
  | [], cs => some cs
  | (i, v) :: r, cs => match foAt T.fo t i with
    | none => none
    | some off => match foAt T.fz t i with
      | none => none
      | some z => match Nat.beq v.cells.toList.length z && Nat.ble (off + z) cs.length with
        | true => bld T t r (splice cs off v.cells.toList)
        | false => none

theorem foldl_splice (off : Nat) : ∀ (vs : List Value) (j : Nat) (cs : Array Value), off + j + vs.length ≤ cs.size →
    ((vs.zipIdx j).foldl (fun (cs : Array Value) (x : Value × Nat) => cs.setIfInBounds (off + x.2) x.1) cs).toList = cs.toList.take (off + j) ++ vs ++ cs.toList.drop (off + j + vs.length)
  | [], j, cs, h => by simp
  | v :: r, j, cs, h => by
    simp only [List.zipIdx_cons, List.foldl_cons]
    rw [foldl_splice off r (j + 1) _ (by simp at h ⊢; omega)]
    simp only [List.length_cons] at h
    apply List.ext_getElem?
    intro m
    simp only [Array.toList_setIfInBounds, List.length_cons, List.append_assoc]
    have hlen : cs.toList.length = cs.size := by simp
    rcases Nat.lt_or_ge m (off + j) with h1 | h1
    · rw [List.getElem?_append_left (by simp; omega), List.getElem?_append_left (by simp; omega), List.getElem?_take, List.getElem?_take, if_pos (by omega), if_pos h1, List.getElem?_set_ne (by omega)]
    · rcases Nat.eq_or_lt_of_le h1 with h2 | h2
      · subst h2
        rw [List.getElem?_append_left (by simp; omega), List.getElem?_append_right (by simp; omega), List.getElem?_take, if_pos (by omega), List.getElem?_set_self (by simp; omega)]
        have : (cs.toList.take (off + j)).length = off + j := by simp; omega
        simp [this]
      · have e1 : ((cs.toList.set (off + j) v).take (off + (j + 1))).length = off + j + 1 := by simp; omega
        have e2 : (cs.toList.take (off + j)).length = off + j := by simp; omega
        rw [List.getElem?_append_right (by rw [e1]; omega), e1]
        conv => rhs; rw [List.getElem?_append_right (by rw [e2]; omega), e2, show m - (off + j) = (m - (off + j + 1)) + 1 by omega]
        simp only [List.cons_append, List.getElem?_cons_succ]
        rcases Nat.lt_or_ge (m - (off + j + 1)) r.length with h3 | h3
        · rw [List.getElem?_append_left h3, List.getElem?_append_left h3]
        · rw [List.getElem?_append_right h3, List.getElem?_append_right h3, List.getElem?_drop, List.getElem?_drop, List.getElem?_set_ne (by omega)]
          congr 1
          omega

theorem fill_bld (TO : TabOk P T) {t : Nat} {fs : Array Field} (hu : P.underlying t = some (.struct fs)) {places : Array (Nat × Nat)} (hpl : ∀ (i : Nat) f, fs[i]? = some f → ∃ z, (P.info? f.type).map (·.size) = some z ∧ places[i]? = some (f.offset, z)) :
    ∀ {parts : List (Nat × Value)} {cs : Array Value} {out : List Value}, bld T t parts cs.toList = some out → Instr.fill (places[·]?) cs parts = some out.toArray
  | [], cs, out, h => by simp [bld] at h; simp [Instr.fill, ← h]
  | (i, v) :: r, cs, out, h => by
    simp only [bld] at h
    split at h
    · simp at h
    · rename_i off ho
      split at h
      · simp at h
      · rename_i z hz
        split at h
        · rename_i hb
          simp only [Bool.and_eq_true] at hb
          have hb1 : v.cells.toList.length = z := by simpa using hb.1
          have hb2 : off + z ≤ cs.toList.length := by simpa using hb.2
          have ho' := List.all_eq_true.1 TO.fo _ (foAt_mem ho)
          have hz' := List.all_eq_true.1 TO.fz _ (foAt_mem hz)
          simp only [foOk, hu] at ho'
          simp only [fzOk, hu] at hz'
          cases hf : fs[i]? with
          | none => simp [hf] at ho'
          | some f =>
            obtain ⟨z', hz1, hp⟩ := hpl i f hf
            simp only [hf] at ho' hz'
            cases hi : P.info? f.type with
            | none => simp [hi] at ho'
            | some info =>
              simp [hi] at ho' hz' hz1
              simp only [Instr.fill, hp]
              have e1 : v.cells.size = z := by simpa using hb1
              rw [if_neg (by simp at hb2 ⊢; omega)]
              have hsp := foldl_splice off v.cells.toList 0 cs (by simp at hb1 hb2 ⊢; omega)
              have : (v.cells.zipIdx.foldl (fun (cs : Array Value) (x : Value × Nat) => cs.setIfInBounds (f.offset + x.2) x.1) cs).toList = splice cs.toList off v.cells.toList := by
                rw [← Array.foldl_toList, Array.toList_zipIdx, ho'.2, hsp]
                simp [splice]
              refine fill_bld TO hu hpl (parts := r) ?_
              rw [this]
              exact h
        · simp at h

theorem YQ.build (TO : TabOk P T) {t : Nat} {parts : List (Nat × Value)} {z0 cs : List Value} {K : Value → Prop} (hz : zAt T.zero t = some z0) (hbd : memB t T.bd = true)
    (hb : bld T t parts z0 = some cs) (k : K (.agg cs.toArray)) :
    YQ P w0 I L (.build t parts) K := by
  obtain ⟨v, hv, hr⟩ := z_spec TO.zero hz
  obtain ⟨fs, hu, hsz⟩ : ∃ fs, P.underlying t = some (.struct fs) ∧ ∀ f, f ∈ fs.toList → ∃ z, (P.info? f.type).map (·.size) = some z := by
    have hk := List.all_eq_true.1 TO.bd t (memB_spec' hbd)
    unfold bdOk at hk
    split at hk
    · rename_i fs hu
      refine ⟨fs, hu, fun f hf => ?_⟩
      have := List.all_eq_true.1 hk f hf
      obtain ⟨i, hi⟩ := Option.isSome_iff_exists.1 this
      exact ⟨i.size, by simp [hi]⟩
    · simp at hk
  refine ⟨_, fun w _ => ?_, k⟩
  have hmap : ∀ (l : List Field), (∀ f, f ∈ l → ∃ z, (P.info? f.type).map (·.size) = some z) →
      ∃ ps : List (Nat × Nat), (l.mapM (fun f => do pure (f.offset, ← sizeOf f.type) : Field → Sem (Nat × Nat))).run P w = .ok ps w ∧ ∀ (i : Nat) f, l[i]? = some f → ∃ z, (P.info? f.type).map (·.size) = some z ∧ ps[i]? = some (f.offset, z) := by
    intro l
    induction l with
    | nil => intro _; exact ⟨[], by simp [Sem.run], fun i f h => by simp at h⟩
    | cons f r ih =>
      intro hl
      obtain ⟨z, hz⟩ := hl f (by simp)
      obtain ⟨ps, h1, h2⟩ := ih (fun g hg => hl g (by simp [hg]))
      refine ⟨(f.offset, z) :: ps, ?_, ?_⟩
      · have : (sizeOf f.type).run P w = .ok z w := by
          simp only [Option.map_eq_some_iff] at hz
          obtain ⟨i, hi, hz⟩ := hz
          simp [sizeOf, typeInfo, program, Sem.run, hi, hz]
        rw [List.mapM_cons, Sem.run_bind, Sem.run_bind, this]
        simp only [Result.andThen, Sem.run_pure]
        rw [Sem.run_bind, h1]
        rfl
      · intro i g hg
        cases i with
        | zero => simp at hg; subst hg; exact ⟨z, hz, by simp⟩
        | succ i => simp at hg; simpa using h2 i g hg
  obtain ⟨ps, h1, h2⟩ := hmap fs.toList hsz
  have hfill := fill_bld TO hu (places := ps.toArray) (fun i f hf => by
    obtain ⟨z, hz1, hz2⟩ := h2 i f (by simpa using hf)
    exact ⟨z, hz1, by simpa using hz2⟩) (parts := parts) (cs := v.cells) (out := cs) (by rw [hv]; exact hb)
  have e : fs = fs.toList.toArray := by simp
  show (Instr.build t parts.toArray).run P w = _
  unfold Instr.build
  rw [Sem.run_bind, hr w]
  simp only [Result.andThen_ok, Sem.run_bind, run_underlying hu]
  have h3 : (fs.mapM (fun f => do pure (f.offset, ← sizeOf f.type) : Field → Sem (Nat × Nat))).run P w = .ok ps.toArray w := by
    rw [e, List.mapM_toArray, Sem.run_map, h1]
    rfl
  rw [h3]
  simp only [Result.andThen_ok]
  have hfill' : Instr.fill (fun x => ps.toArray[x]?) v.cells parts = some cs.toArray := hfill
  rw [hfill']
  simp [Sem.run]
end
end Vc
end Go.Proofs.Ytggbhokhibfdmaa
