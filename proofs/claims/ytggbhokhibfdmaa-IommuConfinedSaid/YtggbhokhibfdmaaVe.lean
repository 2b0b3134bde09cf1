/- Contracts over owned blocks: how a function's contract comes of its verification condition, and how a contract is met at a call. Conditions: none. -/
import Derived.Test.YtggbhokhibfdmaaVd
set_option linter.unusedVariables false
set_option linter.unusedSimpArgs false
set_option linter.unusedSectionVars false
namespace Go.Proofs.Ytggbhokhibfdmaa
namespace Vc

structure Own (w : World) (L : Hs) : Prop where
  nodup : (L.map Ent.b).Nodup
  cells : ∀ e, e ∈ L → w.heap[e.b]? = some e.obj

theorem Own.hp {w : World} {L : Hs} (h : Own w L) : Hp w (L.map Ent.b) w L :=
  ⟨Nat.le_refl _, rfl, rfl, rfl, h.nodup, h.cells, fun e he => .inl (List.mem_map.2 ⟨e, he, rfl⟩), fun _ _ _ => rfl⟩

structure Con (P : Program) (f : FuncId) (args : List Value) (w : World) (L : Hs) (R : Value → Hs → Prop) : Prop where
  mk :: (out : Calls P f args.toArray w (fun e w' => ∃ v L', e = .returned v ∧ Hp w (L.map Ent.b) w' L' ∧ R v L'))

def ini : Nat → List Value → Env
  | _, [] => []
  | i, v :: r => (i, v) :: ini (i + 1) r

theorem get_ini : ∀ (l : List Value) (k i : Nat) (v : Value), get (ini k l) i = some v → k ≤ i ∧ l[i - k]? = some v
  | [], k, i, v, h => by simp [ini, get] at h
  | x :: r, k, i, v, h => by
    simp only [ini, get] at h
    split at h
    · rename_i hb
      have : i = k := by simpa using hb
      subst this
      simp at h
      subst h
      simp
    · rename_i hb
      have hne : i ≠ k := by intro he; subst he; simp at hb
      obtain ⟨h1, h2⟩ := get_ini r (k + 1) i v h
      refine ⟨by omega, ?_⟩
      rw [show i - k = (i - (k + 1)) + 1 by omega]
      simpa using h2

theorem ER_ini {n : Nat} {args : List Value} (hn : args.length ≤ n) : ER n (ini 0 args) { tmps := args.toArray ++ Array.replicate (n - args.toArray.size) undef, defers := [] } where
  defers := rfl
  size := by simp; omega
  get := by
    intro i v h
    obtain ⟨_, h2⟩ := get_ini args 0 i v h
    simp at h2
    have hlt : i < args.length := (List.getElem?_eq_some_iff.1 h2).1
    simp only [Array.getElem?_append, List.size_toArray, hlt, if_true]
    simpa using h2

def tup : List Value → Value
  | [v] => v
  | vs => .tuple vs.toArray

section
variable (P : Program) (w0 : World) (I : List Nat)
def stepR (L : Hs) (r : ResultVar) (ih : Env → (List Value → Prop) → Prop) (env : Env) (K : List Value → Prop) : Prop :=
  match r with
  | .tmp t => match get env t with | some v => ih env (fun vs => K (v :: vs)) | none => False
  | .cell a t => match get env a with
    | some (.pointer (some p)) => YQ P w0 I L (.load t (.pointer (some p))) (fun v => ih env (fun vs => K (v :: vs)))
    | _ => False
noncomputable def resK (L : Hs) (rs : List ResultVar) : Env → (List Value → Prop) → Prop :=
  List.rec (motive := fun _ => Env → (List Value → Prop) → Prop) (fun _ K => K []) (fun r _ ih => stepR P w0 I L r ih) rs
inductive Fin (L : Hs) (R : Value → Hs → Prop) (v : Value) : Prop
  | mk (L' : Hs) (h : Pre L' L) (hR : R v L')
  | sub (L' : Hs) (h : Sub L' L) (hR : R v L')
end

section
variable {P : Program} {w0 : World} {I : List Nat} {T : Tab}

def resOne (a : Act) : ResultVar → Sem Value
  | .tmp t => .pure (a.tmps.getD t undef)
  | .cell b t => do loadVar t (← asAddr (a.tmps.getD b undef))

theorem resK_sound {n : Nat} {L : Hs} {env : Env} {a : Act} (he : ER n env a) {w : World} (hw : Hp w0 I w L) : ∀ {rs : List ResultVar} {K : List Value → Prop}, resK P w0 I L rs env K →
    ∃ vs, (rs.mapM (resOne a)).run P w = .ok vs w ∧ K vs
  | [], K, h => ⟨[], by simp [Sem.run], h⟩
  | .tmp t :: r, K, h => by
    replace h : stepR P w0 I L (.tmp t) (resK P w0 I L r) env K := h
    simp only [stepR] at h
    split at h
    · rename_i v hv
      obtain ⟨vs, h1, h2⟩ := resK_sound he hw h
      have h0 : (resOne a (.tmp t)).run P w = .ok v w := by
        have : a.tmps.getD t undef = v := by simp [Array.getD_eq_getD_getElem?, he.get _ _ hv]
        simp only [resOne, Sem.run, this]
      refine ⟨v :: vs, ?_, h2⟩
      rw [List.mapM_cons, Sem.run_bind, h0]
      simp only [Result.andThen]
      rw [Sem.run_bind, h1]
      rfl
    · exact h.elim
  | .cell b t :: r, K, h => by
    replace h : stepR P w0 I L (.cell b t) (resK P w0 I L r) env K := h
    simp only [stepR] at h
    split at h
    · rename_i p hv
      obtain ⟨v, hq, hk⟩ := h
      obtain ⟨vs, h1, h2⟩ := resK_sound he hw hk
      have hp : a.tmps.getD b undef = .pointer (some p) := by simp [Array.getD_eq_getD_getElem?, he.get _ _ hv]
      have hq' := hq w hw
      have hq2 : (loadVar t p).run P w = .ok v w := by
        simpa [Rq.sem, Instr.loadAt, Instr.sureAddr, Sem.run_bind, Sem.run] using hq'
      have h0 : (resOne a (.cell b t)).run P w = .ok v w := by
        simp only [resOne, hp, asAddr]
        rw [Sem.run_bind]
        exact hq2
      refine ⟨v :: vs, ?_, h2⟩
      rw [List.mapM_cons, Sem.run_bind, h0]
      simp only [Result.andThen]
      rw [Sem.run_bind, h1]
      rfl
    · exact h.elim

theorem results_of {fn : Func} {a : Act} {w : World} {vs : List Value} (h : (fn.results.toList.mapM (resOne a)).run P w = .ok vs w) : (results fn a.tmps).run P w = .ok (tup vs) w := by
  have e : fn.results = fn.results.toList.toArray := by simp
  have hf : ∀ (f : ResultVar → Sem Value), f = resOne a → (do
      let vs ← fn.results.mapM f
      pure (if h : vs.size = 1 then vs[0] else .tuple vs) : Sem Value).run P w = .ok (tup vs) w := by
    rintro _ rfl
    rw [e, List.mapM_toArray]
    rw [Sem.run_bind, Sem.run_map, h]
    simp only [Result.andThen]
    cases vs with
    | nil => simp [tup, Sem.run]
    | cons v r => cases r with
      | nil => simp [tup, Sem.run]
      | cons v2 r => simp [tup, Sem.run]
  refine hf _ ?_
  funext r
  cases r <;> rfl

theorem Con.of_vc (TO : TabOk P T) {f : FuncId} {fn : Func} {c : Code} {args : List Value} {w : World} {L : Hs} {R : Value → Hs → Prop} (n : Nat) (rs : List ResultVar)
    (hf : P.funcs[f]? = some fn) (hb : fn.body = some c) (hn : fn.ntmps = n) (hr : fn.results = rs.toArray) (ha : Nat.ble args.length n = true) (hw : Own w L)
    (h : vc P w (L.map Ent.b) T n c (fun e env' L' => match e with
      | .ret => resK P w (L.map Ent.b) L' rs env' (fun vs => Fin L' R (tup vs))
      | .normal => resK P w (L.map Ent.b) L' rs env' (fun vs => Fin L' R (tup vs))
      | _ => False) (ini 0 args) L) : Con P f args w L R := by
  have ha' : args.length ≤ n := Nat.le_of_ble_eq_true ha
  have := vc_sound TO n c _ _ L _ w h (ER_ini ha') hw.hp
  refine ⟨calls_of_wp hf hb (Code.wp_mono ?_ (by rw [hn]; exact this))⟩
  rintro e a' w' ⟨env', L', he', hw', _, hk⟩
  have fin : resK P w (L.map Ent.b) L' rs env' (fun vs => Fin L' R (tup vs)) → a'.defers = [] ∧ ∃ v, (results fn a'.tmps).run P w' = .ok v w' ∧ ∃ v' L'', Ending.returned v = .returned v' ∧ Hp w (L.map Ent.b) w' L'' ∧ R v' L'' := by
    intro hk
    obtain ⟨vs, h1, hF⟩ := resK_sound he' hw' hk
    cases hF with
    | mk L2 h2 h3 => exact ⟨he'.defers, tup vs, results_of (by rw [hr]; exact h1), tup vs, L2, rfl, hw'.pre h2, h3⟩
    | sub L2 h2 h3 => exact ⟨he'.defers, tup vs, results_of (by rw [hr]; exact h1), tup vs, L2, rfl, hw'.subs h2, h3⟩
  cases e with
  | ret => exact fin hk
  | normal => exact fin hk
  | _ => exact hk.elim

theorem Con.mono {f : FuncId} {args : List Value} {w : World} {L : Hs} {R R' : Value → Hs → Prop} (h : Con P f args w L R) (hr : ∀ v L', R v L' → R' v L') : Con P f args w L R' :=
  ⟨Calls.mono h.out fun _ _ ⟨v, L', he, hp, hR⟩ => ⟨v, L', he, hp, hr v L' hR⟩⟩

/-! ### Calls -/
def mrg : Hs → List Nat → Hs → Hs
  | L, [], rest => L ++ rest
  | L, _ :: _, [] => L
  | L, i :: is, e :: es => mrg (L.set i e) is es
theorem mrg_mem : ∀ {is : List Nat} {L Lc' : Hs} {x : Ent}, is.length ≤ Lc'.length → x ∈ mrg L is Lc' → x ∈ Lc' ∨ ∃ j, j ∉ is ∧ L[j]? = some x
  | [], L, Lc', x, _, h => by
    simp only [mrg, List.mem_append] at h
    rcases h with h | h
    · obtain ⟨j, hj⟩ := List.mem_iff_getElem?.1 h
      exact .inr ⟨j, by simp, hj⟩
    · exact .inl h
  | i :: is, L, [], x, hl, h => by simp at hl
  | i :: is, L, e :: es, x, hl, h => by
    simp only [mrg] at h
    rcases mrg_mem (by simpa using hl) h with h | ⟨j, hj, h⟩
    · exact .inl (List.mem_cons_of_mem _ h)
    · by_cases hji : i = j
      · subst hji
        rw [List.getElem?_set_self'] at h
        cases hx : L[i]? with
        | none => simp [hx] at h
        | some y => simp [hx] at h; subst h; exact .inl (by simp)
      · rw [List.getElem?_set_ne hji] at h
        exact .inr ⟨j, by simp [hj, Ne.symm hji], h⟩

theorem mrg_ids : ∀ {is : List Nat} {L Lc Lc' : Hs}, sel L is = some Lc → (Lc'.take is.length).map Ent.b = Lc.map Ent.b → (mrg L is Lc').map Ent.b = L.map Ent.b ++ (Lc'.drop is.length).map Ent.b
  | [], L, Lc, Lc', _, _ => by simp [mrg]
  | i :: is, L, Lc, [], hs, h => by
    simp only [sel] at hs
    split at hs
    · split at hs
      · simp at hs; subst hs; simp at h
      · simp at hs
    · simp at hs
  | i :: is, L, Lc, e :: es, hs, h => by
    have hs' := hs
    simp only [sel] at hs
    split at hs
    · rename_i x hx
      split at hs
      · rename_i l hl
        simp at hs
        subst hs
        simp only [List.length_cons, List.take_succ_cons, List.map_cons, List.cons.injEq] at h
        simp only [mrg, List.length_cons, List.drop_succ_cons]
        have hids := map_set_same (e' := e) hx h.1
        -- the others are found in the changed list by the same numbers
        have hsel : ∀ (r : List Nat) (l : Hs), sel L r = some l → ∃ l', sel (L.set i e) r = some l' ∧ l'.map Ent.b = l.map Ent.b := by
          intro r
          induction r with
          | nil => intro l hl; simp [sel] at hl ⊢; simp [← hl]
          | cons j r ih =>
            intro l hl
            simp only [sel] at hl
            split at hl
            · rename_i y hy
              split at hl
              · rename_i l2 hl2
                simp at hl
                subst hl
                obtain ⟨l', h1, h2⟩ := ih l2 hl2
                have hj : ∃ y', (L.set i e)[j]? = some y' ∧ y'.b = y.b := by
                  have hm := congrArg (fun m => m[j]?) hids
                  simp only [List.getElem?_map, hy, Option.map_some] at hm
                  cases hq : (L.set i e)[j]? with
                  | none => rw [hq] at hm; simp at hm
                  | some y' => rw [hq] at hm; simp at hm; exact ⟨y', rfl, hm⟩
                obtain ⟨y', hy1, hy2⟩ := hj
                exact ⟨y' :: l', by simp [sel, hy1, h1], by simp [hy2, h2]⟩
              · simp at hl
            · simp at hl
        obtain ⟨l', h1, h2⟩ := hsel is l hl
        rw [mrg_ids h1 (by rw [h2]; exact h.2), hids]
      · simp at hs
    · simp at hs

theorem Hp.mrg {w w' : World} {L Lc Lc' : Hs} {is : List Nat} (hw : Hp w0 I w L) (hs : sel L is = some Lc) (hu : uniq is = true) (hc : Hp w (Lc.map Ent.b) w' Lc')
    (hids : (Lc'.take is.length).map Ent.b = Lc.map Ent.b) : Hp w0 I w' (mrg L is Lc') := by
  have hlen : ∀ {is : List Nat} {Lc : Hs}, sel L is = some Lc → Lc.length = is.length := by
    intro is
    induction is with
    | nil => intro Lc h; simp [sel] at h; simp [← h]
    | cons i r ih =>
      intro Lc h
      simp only [sel] at h
      split at h
      · split at h
        · rename_i l hl
          simp at h
          subst h
          simp [ih hl]
        · simp at h
      · simp at h
  have hle : is.length ≤ Lc'.length := by
    have := congrArg List.length hids
    simp [hlen hs] at this
    omega
  have hsub : ∀ e, e ∈ Lc → e ∈ L := fun e he => by
    obtain ⟨i, _, hi⟩ := sel_get hs e he
    exact List.mem_iff_getElem?.2 ⟨i, hi⟩
  have hnew : ∀ x, x ∈ (Lc'.drop is.length).map Ent.b → w.heap.size ≤ x := by
    intro x hx
    obtain ⟨e, he, rfl⟩ := List.mem_map.1 hx
    rcases hc.own e (List.mem_of_mem_drop he) with h1 | h1
    · exfalso
      rw [← hids] at h1
      have hn := hc.nodup
      rw [← List.take_append_drop is.length Lc', List.map_append, List.nodup_append] at hn
      exact hn.2.2 _ h1 _ hx rfl
    · exact h1
  refine ⟨Nat.le_trans hw.size hc.size, hc.os.trans hw.os, hc.tape.trans hw.tape, hc.output.trans hw.output, ?_, ?_, ?_, ?_⟩
  · rw [mrg_ids hs hids, List.nodup_append]
    refine ⟨hw.nodup, ?_, ?_⟩
    · have hn := hc.nodup
      rw [← List.take_append_drop is.length Lc', List.map_append, List.nodup_append] at hn
      exact hn.2.1
    · intro x hx y hy
      obtain ⟨e, he, rfl⟩ := List.mem_map.1 hx
      have h1 := hw.lt he
      have h2 := hnew y hy
      omega
  · intro x hx
    rcases mrg_mem hle hx with hx | ⟨j, hj, hx⟩
    · exact hc.cells x hx
    · have hxL : x ∈ L := List.mem_iff_getElem?.2 ⟨j, hx⟩
      rw [hc.rest x.b (hw.lt hxL) ?_]
      · exact hw.cells x hxL
      · intro hm
        obtain ⟨e, he, heb⟩ := List.mem_map.1 hm
        obtain ⟨i, hi, hie⟩ := sel_get hs e he
        exact nodup_ne hw.nodup hie hx (by rintro rfl; exact hj hi) heb
  · intro x hx
    rcases mrg_mem hle hx with hx | ⟨j, hj, hx⟩
    · rcases hc.own x hx with h1 | h1
      · obtain ⟨e, he, heb⟩ := List.mem_map.1 h1
        rw [← heb]
        exact hw.own e (hsub e he)
      · exact .inr (Nat.le_trans hw.size h1)
    · exact hw.own x (List.mem_iff_getElem?.2 ⟨j, hx⟩)
  · intro b hb hI
    rw [hc.rest b (Nat.lt_of_lt_of_le hb hw.size) ?_]
    · exact hw.rest b hb hI
    · intro hm
      obtain ⟨e, he, heb⟩ := List.mem_map.1 hm
      rcases hw.own e (hsub e he) with h1 | h1
      · exact hI (heb ▸ h1)
      · omega

theorem Hp.sub {w : World} {L Lc : Hs} {is : List Nat} (hw : Hp w0 I w L) (hs : sel L is = some Lc) (hu : uniq is = true) : Own w Lc :=
  ⟨sel_nodup hw.nodup hs hu, fun e he => by
    obtain ⟨i, _, hi⟩ := sel_get hs e he
    exact hw.cells e (List.mem_iff_getElem?.2 ⟨i, hi⟩)⟩

/-- A call met by a contract: 'is': the places of the callee's blocks among the caller's. -/
theorem YC.con {f : FuncId} {args : List Value} {L : Hs} {K R : Value → Hs → Prop} (is : List Nat) (Lc : Hs) (hs : sel L is = some Lc) (hu : uniq is = true)
    (h : ∀ w, Hp w0 I w L → Own w Lc → Con P f args w Lc R)
    (hk : ∀ v Lc', R v Lc' → (Lc'.take is.length).map Ent.b = Lc.map Ent.b ∧ K v (mrg L is Lc')) : YC P w0 I L f args K :=
  ⟨fun w hw => Calls.mono (h w hw (hw.sub hs hu)).out fun e w' ⟨v, L', he, hp, hR⟩ => by
    obtain ⟨h1, h2⟩ := hk v L' hR
    exact ⟨v, Vc.mrg L is L', he, hw.mrg hs hu hp h1, h2⟩⟩

theorem mrg_nodup : ∀ {is : List Nat} {L Lc' : Hs}, is.length ≤ Lc'.length → (Lc'.map Ent.b).Nodup → (∀ (i j : Nat) x y, i ∉ is → j ∉ is → L[i]? = some x → L[j]? = some y → i ≠ j → x.b ≠ y.b) →
    (∀ (i : Nat) x, i ∉ is → L[i]? = some x → x.b ∉ Lc'.map Ent.b) → ((mrg L is Lc').map Ent.b).Nodup
  | [], L, Lc', _, hn, h1, h2 => by
    simp only [mrg, List.map_append]
    rw [List.nodup_append]
    refine ⟨?_, hn, ?_⟩
    · rw [List.Nodup, List.pairwise_iff_getElem]
      intro i j hi hj hij
      rw [List.length_map] at hi hj
      rw [List.getElem_map, List.getElem_map]
      exact h1 i j _ _ (by simp) (by simp) (List.getElem?_eq_getElem hi) (List.getElem?_eq_getElem hj) (by omega)
    · intro x hx y hy he
      obtain ⟨e, he1, rfl⟩ := List.mem_map.1 hx
      obtain ⟨i, hi⟩ := List.mem_iff_getElem?.1 he1
      exact h2 i e (by simp) hi (he ▸ hy)
  | i :: is, L, [], hl, _, _, _ => by simp at hl
  | i :: is, L, e :: es, hl, hn, h1, h2 => by
    simp only [mrg]
    rw [List.map_cons, List.nodup_cons] at hn
    refine mrg_nodup (by simpa using hl) hn.2 ?_ ?_
    · intro a b x y ha hb hx hy hab
      by_cases hia : i = a
      · subst hia
        rw [List.getElem?_set_self'] at hx
        cases hq : L[i]? with
        | none => simp [hq] at hx
        | some z =>
          simp [hq] at hx
          subst hx
          rw [List.getElem?_set_ne hab] at hy
          intro he
          exact h2 b y (by simp [hb, Ne.symm hab]) hy (by simp [he])
      · by_cases hib : i = b
        · subst hib
          rw [List.getElem?_set_self'] at hy
          cases hq : L[i]? with
          | none => simp [hq] at hy
          | some z =>
            simp [hq] at hy
            subst hy
            rw [List.getElem?_set_ne hia] at hx
            intro he
            exact h2 a x (by simp [ha, Ne.symm hia]) hx (by simp [he])
        · rw [List.getElem?_set_ne hia] at hx
          rw [List.getElem?_set_ne hib] at hy
          exact h1 a b x y (by simp [ha, Ne.symm hia]) (by simp [hb, Ne.symm hib]) hx hy hab
    · intro a x ha hx
      by_cases hia : i = a
      · subst hia
        rw [List.getElem?_set_self'] at hx
        cases hq : L[i]? with
        | none => simp [hq] at hx
        | some z => simp [hq] at hx; subst hx; exact hn.1
      · rw [List.getElem?_set_ne hia] at hx
        have := h2 a x (by simp [ha, Ne.symm hia]) hx
        simp only [List.map_cons, List.mem_cons, not_or] at this
        exact this.2

theorem Hp.mrgR {w w' : World} {L Lc Lc' : Hs} {is : List Nat} (hw : Hp w0 I w L) (hs : sel L is = some Lc) (hc : Hp w (Lc.map Ent.b) w' Lc') (hle : is.length ≤ Lc'.length) : Hp w0 I w' (Vc.mrg L is Lc') := by
  have hsub : ∀ e, e ∈ Lc → e ∈ L := fun e he => by
    obtain ⟨i, _, hi⟩ := sel_get hs e he
    exact List.mem_iff_getElem?.2 ⟨i, hi⟩
  have hout : ∀ (i : Nat) x, i ∉ is → L[i]? = some x → x.b ∉ Lc.map Ent.b := by
    intro i x hi hx hm
    obtain ⟨e, he, heb⟩ := List.mem_map.1 hm
    obtain ⟨j, hj, hje⟩ := sel_get hs e he
    exact nodup_ne hw.nodup hje hx (by rintro rfl; exact hi hj) heb
  have hout' : ∀ (i : Nat) x, i ∉ is → L[i]? = some x → x.b ∉ Lc'.map Ent.b := by
    intro i x hi hx hm
    obtain ⟨e, he, heb⟩ := List.mem_map.1 hm
    rcases hc.own e he with h1 | h1
    · exact hout i x hi hx (heb ▸ h1)
    · have := hw.lt (List.mem_iff_getElem?.2 ⟨i, hx⟩)
      omega
  refine ⟨Nat.le_trans hw.size hc.size, hc.os.trans hw.os, hc.tape.trans hw.tape, hc.output.trans hw.output, ?_, ?_, ?_, ?_⟩
  · exact mrg_nodup hle hc.nodup (fun i j x y _ _ hx hy hij => nodup_ne hw.nodup hx hy hij) hout'
  · intro x hx
    rcases mrg_mem hle hx with hx | ⟨j, hj, hx⟩
    · exact hc.cells x hx
    · have hxL : x ∈ L := List.mem_iff_getElem?.2 ⟨j, hx⟩
      rw [hc.rest x.b (hw.lt hxL) (hout j x hj hx)]
      exact hw.cells x hxL
  · intro x hx
    rcases mrg_mem hle hx with hx | ⟨j, hj, hx⟩
    · rcases hc.own x hx with h1 | h1
      · obtain ⟨e, he, heb⟩ := List.mem_map.1 h1
        rw [← heb]
        exact hw.own e (hsub e he)
      · exact .inr (Nat.le_trans hw.size h1)
    · exact hw.own x (List.mem_iff_getElem?.2 ⟨j, hx⟩)
  · intro b hb hI
    rw [hc.rest b (Nat.lt_of_lt_of_le hb hw.size) ?_]
    · exact hw.rest b hb hI
    · intro hm
      obtain ⟨e, he, heb⟩ := List.mem_map.1 hm
      rcases hw.own e (hsub e he) with h1 | h1
      · exact hI (heb ▸ h1)
      · omega

/-- A call met by a contract that may lay its blocks anew. -/
theorem YC.conR {f : FuncId} {args : List Value} {L : Hs} {K R : Value → Hs → Prop} (is : List Nat) (Lc : Hs) (hs : sel L is = some Lc) (hu : uniq is = true)
    (h : ∀ w, Hp w0 I w L → Own w Lc → Con P f args w Lc R)
    (hk : ∀ v Lc', R v Lc' → Nat.ble is.length Lc'.length = true ∧ K v (mrg L is Lc')) : YC P w0 I L f args K :=
  ⟨fun w hw => Calls.mono (h w hw (hw.sub hs hu)).out fun e w' ⟨v, L', he, hp, hR⟩ => by
    obtain ⟨h1, h2⟩ := hk v L' hR
    exact ⟨v, Vc.mrg L is L', he, hw.mrgR hs hp (Nat.le_of_ble_eq_true h1), h2⟩⟩
end
end Vc
open Vc
theorem Own.nil' (w : World) : Own w [] := ⟨List.nodup_nil, by simp⟩
end Go.Proofs.Ytggbhokhibfdmaa
