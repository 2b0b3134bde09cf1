/- Records in blocks: without a tail, appended, and loops over blocks that stay. Conditions: none. -/
import Derived.Test.YtggbhokhibfdmaaVj
set_option linter.unusedVariables false
set_option linter.unusedSimpArgs false
set_option linter.unusedSectionVars false
namespace Go.Proofs.Ytggbhokhibfdmaa
namespace Vc
theorem Lp.subK {D : List Nat} {F : (Exit → Env → Hs → Prop) → Env → Hs → Prop} {k : Exit → Env → Hs → Prop} {env : Env} {L : Hs} {α : Type} (S Kp : List Nat) (kv : List Value) (vals : α → List Value) (L' : Hs) (Inv : α → Prop) (μ : α → Nat)
      (hk : getAll env Kp = some kv) (hd : disj Kp D = true)
      (x0 : α) (h0 : Inv x0) (hv : getAll env S = some (vals x0)) (hl : Sub L' L)
      (step : ∀ x, Inv x → F (fun e env' L'' => match e with
        | .normal => ∃ x', Inv x' ∧ μ x' < μ x ∧ getAll env' S = some (vals x') ∧ Sub L' L''
        | e => k e env' L'') (zipE S (vals x) (zipE Kp kv [])) L') : Lp D F k env L :=
  Lp.sub S Kp kv vals (fun _ => L') Inv μ hk hd x0 h0 hv hl step
section
variable {P : Program} {w0 : World} {I : List Nat} {T : Tab} {L : Hs} {α : Type} {g : α → List Value} {n : Nat}
theorem YQ.loadRow0 (TO : TabOk P T) {t b o : Nat} {ls : List α} {x : α} {ty : Nat} {K : Value → Prop} (hs : natAt T.ag t = some n) (i j : Nat) (hi : cAt L i = some ⟨b, ty, rows g ls⟩)
    (hg : ∀ x, (g x).length = n) (hj : ls[j]? = some x) (ho : o = j * n) (k : K (.agg (g x).toArray)) : YQ P w0 I L (.load t (.pointer (some ⟨b, o, none⟩))) K :=
  YQ.loadRow (tl := []) TO hs i j (by rw [List.append_nil]; exact hi) hg hj ho k
theorem YQ.loadR0 (TO : TabOk P T) {t b o : Nat} {ls : List α} {x : α} {v : Value} {ty : Nat} {K : Value → Prop} (hs : memB t T.sc = true) (i j : Nat) (hi : cAt L i = some ⟨b, ty, rows g ls⟩)
    (hg : ∀ x, (g x).length = n) (hj : ls[j]? = some x) (c : Nat) (ho : o = j * n + c) (hc : (g x)[c]? = some v) (k : K v) : YQ P w0 I L (.load t (.pointer (some ⟨b, o, none⟩))) K :=
  YQ.loadR (tl := []) TO hs i j (by rw [List.append_nil]; exact hi) hg hj c ho hc k
theorem YU.storeRow0 (TO : TabOk P T) {t b o : Nat} {ls : List α} {vs : List Value} {ty : Nat} {K : Hs → Prop} (hs : natAt T.ag t = some n) (i j : Nat) (hi : cAt L i = some ⟨b, ty, rows g ls⟩)
    (hg : ∀ x, (g x).length = n) (hj : j < ls.length) (ho : o = j * n) (y : α) (hy : vs = g y) (h1 : (g y).all (·.oneCell') = true) (k : K (L.set i ⟨b, ty, rows g (ls.set j y)⟩)) :
    YU P w0 I L t (.pointer (some ⟨b, o, none⟩)) (.agg vs.toArray) K :=
  YU.storeRow (tl := []) TO hs i j (by rw [List.append_nil]; exact hi) hg hj ho y hy h1 (by rw [List.append_nil]; exact k)
theorem YW.appR {t tx e bytes b len cap : Nat} {zs sl : List Value} {x : Value} {K : Value → Hs → Prop} (hT : SlI P t e n bytes zs) (hg : ∀ x, (g x).length = n) (F : List α) (l : α) (i : Nat) (hi : cAt L i = some ⟨b, e, rows g F ++ sl⟩)
    (hc : F.length = len ∧ (len ≤ cap ∧ len * n + sl.length = cap * n) ∧ (len + 1) * bytes ≤ 140737488355328 ∧ len + 1 ≤ 140737488355328)
    (hs : Rdy P w0 I L n tx x 1 (rows g [l])) (kk : ∀ b' cap' sl', (F.length + 1 ≤ cap' ∧ (F.length + 1) * n + sl'.length = cap' * n) → K (.slice (some ⟨b', 0, none⟩) (len + 1) cap') (L.set i ⟨b', e, rows g (F ++ [l]) ++ sl'⟩)) :
    YW P w0 I L (.append #[t, tx] [.slice (some ⟨b, 0, none⟩) len cap, x]) K := by
  obtain ⟨h1, h2, h3⟩ := hc
  have hl : (rows g F).length = F.length * n := rows_length hg F
  refine YW.append hT i hi (by rw [hl, h1]) (by rw [hl, h1]; exact h2.2) h2.1 hs h3 (fun b' cap' sl' g1 g2 => ?_)
  rw [← rows_append]
  refine kk b' cap' sl' ⟨by omega, ?_⟩
  have g3 : (rows g [l]).length = n := by rw [rows_length hg]; simp
  rw [hl, g3] at g2
  rw [Nat.add_mul, Nat.one_mul]
  exact g2
theorem YW.appR0 {t tx e bytes : Nat} {zs : List Value} {x : Value} {K : Value → Hs → Prop} (hT : SlI P t e n bytes zs) (hg : ∀ x, (g x).length = n) (l : α) (hb : bytes ≤ 140737488355328)
    (hs : Rdy P w0 I L n tx x 1 (rows g [l])) (kk : ∀ b' cap' sl', (1 ≤ cap' ∧ 1 * n + sl'.length = cap' * n) → K (.slice (some ⟨b', 0, none⟩) 1 cap') (L ++ [⟨b', e, rows g [l] ++ sl'⟩])) :
    YW P w0 I L (.append #[t, tx] [.slice none 0 0, x]) K := by
  refine YW.append0 hT hs (by omega) (by omega) (fun b' cap' sl' g1 g2 => kk b' cap' sl' ⟨g1, ?_⟩)
  have g3 : (rows g [l]).length = n := by rw [rows_length hg]; simp
  rw [g3] at g2
  rw [Nat.one_mul]
  exact g2
theorem Rdy.row {tx e' b c ty : Nat} (hk : P.underlying tx = some (.slice e')) (hg : ∀ x, (g x).length = n) (h1 : ∀ x, (g x).all (·.oneCell') = true) (l : α) (i : Nat) (hi : cAt L i = some ⟨b, ty, g l⟩) : Rdy P w0 I L n tx (.slice (some ⟨b, 0, none⟩) 1 c) 1 (rows g [l]) :=
  Rdy.own hk i hi (by rw [List.drop_zero, Nat.one_mul, ← hg l, List.take_length]; simp [rows]) (by rw [rows_length hg]; rfl) (fun v hv => List.all_eq_true.1 (h1 l) v (by simpa [rows] using hv))
theorem YQ.loadSc (TO : TabOk P T) {t : Nat} {ad ad' : Addr} {vs : List Value} {v : Value} {K : Value → Prop} (hd : At w0 ad vs) (hs : memB t T.sc = true) (c : Nat) (ha : ad' = ad.add c) (hc : vs[c]? = some v) (k : K v) : YQ P w0 [] L (.load t (.pointer (some ad'))) K := by
  subst ha
  refine YQ.loadS1 TO (ad := ad.add c) (v := v) (fun c' u hu => ?_) hs k
  cases c' with
  | zero =>
    simp at hu
    subst hu
    rw [add_zero]
    exact hd c v hc
  | succ c' => simp at hu
/-- Addresses of cells. -/
theorem add_none (ab ao k : Nat) : (⟨ab, ao, none⟩ : Addr).add k = ⟨ab, ao + k, none⟩ := by unfold Addr.add; split <;> simp_all
theorem YQ.idxN (TO : TabOk P T) {I : List Nat} {t len cap : Nat} {a : Option Addr} {ls : List α} {x : α} {kd : IntKind} {i : Int} {K : Value → Prop} (hs : natAt T.el t = some n) (ha : Arr w0 n g a ls) (hg : ∀ x, (g x).length = n) (hn : 0 < n) (j : Nat) (hj : ls[j]? = some x)
    (hi : i = j ∧ j < len) (k : ∀ ab ao, At w0 ⟨ab, ao, none⟩ (g x) → K (.pointer (some ⟨ab, ao, none⟩))) : YQ P w0 I L (.indexAddr t (.slice a len cap) (.int kd i)) K :=
  YQ.idxS TO hs ha j hj hi (fun ad hd => by
    obtain ⟨ab, ao, sp⟩ := ad
    cases sp with
    | none => exact k ab ao hd
    | some m =>
      have h0 : 0 < (g x).length := by rw [hg]; exact hn
      have h1 := hd 0 _ (List.getElem?_eq_getElem h0)
      rw [add_zero] at h1
      unfold World.cell? at h1
      split at h1 <;> simp at h1)
theorem YQ.loadN1 (TO : TabOk P T) {t ab ao o : Nat} {vs : List Value} {v : Value} {K : Value → Prop} (hd : At w0 ⟨ab, ao, none⟩ vs) (hs : memB t T.sc = true) (c : Nat) (ho : o = ao + c) (hc : vs[c]? = some v) (k : K v) : YQ P w0 [] L (.load t (.pointer (some ⟨ab, o, none⟩))) K :=
  YQ.loadSc TO hd hs c (by rw [add_none, ho]) hc k
theorem YQ.loadNA (TO : TabOk P T) {t ab ao o m : Nat} {vs us : List Value} {K : Value → Prop} (hd : At w0 ⟨ab, ao, none⟩ vs) (hs : natAt T.ag t = some m) (c : Nat) (ho : o = ao + c) (hu : (vs.drop c).take m = us) (hl : us.length = m) (k : K (.agg us.toArray)) : YQ P w0 [] L (.load t (.pointer (some ⟨ab, o, none⟩))) K := by
  subst ho hu
  refine YQ.loadS TO (ad := ⟨ab, ao + c, none⟩) (vs := (vs.drop c).take m) (fun j u hj => ?_) hs hl k
  rw [List.getElem?_take] at hj
  split at hj
  · rw [List.getElem?_drop] at hj
    have := hd (c + j) u hj
    rw [add_none] at this ⊢
    rw [Nat.add_assoc]
    exact this
  · simp at hj
end
end Vc
end Go.Proofs.Ytggbhokhibfdmaa
