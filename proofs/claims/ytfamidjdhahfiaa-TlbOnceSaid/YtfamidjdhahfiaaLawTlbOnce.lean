/- 'viceroylaw03.TlbOnce' answers true at every list of acts. Conditions: none beside the row's own. -/
import Derived.Test.YtfamidjdhahfiaaRows
import Derived.Test.YtfamidjdhahfiaaLawTlbPlays
import Derived.Test.YtfamidjdhahfiaaVj
set_option linter.unusedVariables false
set_option linter.unusedSimpArgs false
set_option maxRecDepth 10000
set_option maxHeartbeats 80000000
namespace Go.Proofs.Ytfamidjdhahfiaa
open Vc
/-- The line that was filled last for a line's page. -/
def lastF (F : List Ln) (x : Ln) : Option Ln := F.reverse.find? (lsame x)
def Filled (ls F : List Ln) : Prop := ∀ (i : Nat) y, ls[i]? = some y → y ≠ ln0 → lastF F y = some y
def fillP (x : Ac) : Prop := x.d = 1 ∧ lnRight x.l ∧ atP x.at_
theorem lastF_app (F : List Ln) (l x : Ln) : lastF (F ++ [l]) x = if lsame x l = true then some l else lastF F x := by
  unfold lastF
  rw [List.reverse_append]
  show (l :: F.reverse).find? (lsame x) = _
  rw [List.find?_cons]
  cases lsame x l <;> rfl
theorem lsame_refl (x : Ln) : lsame x x = true := by simp [lsame]
theorem lsame_symm {x y : Ln} (h : lsame x y = true) : lsame y x = true := by
  simp only [lsame, decide_eq_true_eq] at h ⊢
  omega
theorem filled_yes {ls F : List Ln} (h : Filled ls F) {x : Ac} (hp : fillP x) : Filled (doL x ls) (F ++ [x.l]) := by
  intro i y hi h0
  have e : doL x ls = (flL (lsame x.l) ls).set x.at_.toNat x.l := (if_pos hp.1).trans (if_pos ⟨hp.2.2, hp.2.1⟩)
  rw [e] at hi
  rw [lastF_app]
  by_cases hj : x.at_.toNat = i
  · subst hj
    rw [List.getElem?_set_self'] at hi
    obtain ⟨z, hz, rfl⟩ := Option.map_eq_some_iff.1 hi
    exact if_pos (lsame_refl _)
  · rw [List.getElem?_set_ne hj, flL, List.getElem?_map] at hi
    obtain ⟨z, hz, he⟩ := Option.map_eq_some_iff.1 hi
    split at he
    · exact absurd he.symm h0
    · rename_i hn
      subst he
      rw [if_neg (fun hs => hn ⟨h0, lsame_symm hs⟩)]
      exact h i z hz h0
theorem filled_no {ls F : List Ln} (h : Filled ls F) {x : Ac} (hp : ¬ fillP x) : Filled (doL x ls) F := by
  have key : ∀ (i : Nat) y, (doL x ls)[i]? = some y → y ≠ ln0 → ls[i]? = some y := by
    have hfl : ∀ (pr : Ln → Bool) (i : Nat) y, (flL pr ls)[i]? = some y → y ≠ ln0 → ls[i]? = some y := by
      intro pr i y hi h0
      rw [flL, List.getElem?_map] at hi
      obtain ⟨z, hz, he⟩ := Option.map_eq_some_iff.1 hi
      split at he
      · exact absurd he.symm h0
      · subst he; exact hz
    intro i y hi h0
    unfold doL at hi
    split at hi
    · rename_i h1
      unfold fillL at hi
      rw [if_neg (fun h2 => hp ⟨h1, h2.2, h2.1⟩)] at hi
      exact hi
    split at hi
    · exact hi
    split at hi
    · unfold evL at hi
      split at hi
      · by_cases hj : x.at_.toNat = i
        · subst hj
          rw [List.getElem?_set_self'] at hi
          obtain ⟨z, hz, he⟩ := Option.map_eq_some_iff.1 hi
          exact absurd he.symm h0
        · rw [List.getElem?_set_ne hj] at hi
          exact hi
      · exact hi
    split at hi
    · exact hi
    split at hi
    · exact hfl _ i y hi h0
    split at hi
    · exact hfl _ i y hi h0
    split at hi
    · exact hfl _ i y hi h0
    split at hi
    · exact hfl _ i y hi h0
    · exact hi
  exact fun i y hi h0 => h i y (key i y hi h0) h0
theorem filled_0 : Filled S0 [] := by
  intro i y hi h0
  exact absurd (List.eq_of_mem_replicate (List.mem_iff_getElem?.2 ⟨i, hi⟩)) h0
theorem lastF_take {F : List Ln} {k : Nat} (hk : k < F.length) (x : Ln) : lastF (F.take (k + 1)) x = if lsame x F[k] = true then some F[k] else lastF (F.take k) x := by
  rw [List.take_succ_eq_append_getElem hk, lastF_app]
theorem slLn : SlI Try.prog 53 49 5 40 [.int .i64 0, .int .i64 0, .int .i64 0, .int .i64 0, .int .i64 0] := SlI.of Try.underlying53 (by kernel_rfl) (by kernel_rfl) rfl rfl rfl
theorem last_con (bF cap : Nat) (sl : List Value) (F : List Ln) (x : Ln) (hF : F.length ≤ 100) (hl : lastF F x = some x) (w : World) (hw : Own w [⟨bF, 49, rows lnV F ++ sl⟩]) :
    Con Try.prog 24 [.slice (some ⟨bF, 0, none⟩) F.length cap, lnA x] w [⟨bF, 49, rows lnV F ++ sl⟩] (fun y L' => y = .bool true ∧ L' = [⟨bF, 49, rows lnV F ++ sl⟩]) := by
  refine Con.of_vc tabOk 47 [.tmp 4] Try.func24 rfl Try.ntmps24 Try.results24 rfl hw ?_
  repeat' ((conv => whnf); first
    | (show _ ∧ _; first | (obtain ⟨rfl, rfl⟩ := hx; refine ⟨rfl, ?_⟩) | (obtain ⟨b, rfl, rfl⟩ := hx; refine ⟨rfl, ?_⟩) | (obtain ⟨b, c, rfl, rfl⟩ := hx; refine ⟨rfl, ?_⟩))
    | (show gsplit _ _ _; first | refine gsplit.tt ?_ | refine gsplit.ff ?_ | refine gsplit.dpos (by omega) ?_ | refine gsplit.dneg (by omega) ?_ | refine gsplit.npos (by omega) ?_ | refine gsplit.nneg (by omega) ?_ | refine gsplit.dec (fun hc => ?_) (fun hc => ?_) | refine gsplit.ndec (fun hc => ?_) (fun hc => ?_) | refine gsplit.eq (fun hc => ?_) (fun hc => ?_) | refine gsplit.neq (fun hc => ?_) (fun hc => ?_))
    | (show YQ _ _ _ _ _ _; first | refine YQ.loadR tabOk rfl 0 k rfl lnV_len (List.getElem?_eq_getElem (by omega)) 0 (by omega) rfl ?_ | refine YQ.loadR tabOk rfl 0 k rfl lnV_len (List.getElem?_eq_getElem (by omega)) 1 (by omega) rfl ?_ | refine YQ.loadR tabOk rfl 0 k rfl lnV_len (List.getElem?_eq_getElem (by omega)) 2 (by omega) rfl ?_ | refine YQ.loadRow tabOk rfl 0 k rfl lnV_len (List.getElem?_eq_getElem (by omega)) (by omega) ?_ | refine YQ.remN (by omega) ?_ | refine YQ.quoN (by omega) ?_ | refine YQ.len tabOk rfl ?_ | refine YQ.idx tabOk rfl (by omega) ?_ | refine YQ.idxA tabOk rfl (by omega) ?_ | refine YQ.sliceA tabOk rfl (by omega) (by omega) ?_ | refine YQ.sliceAll tabOk rfl ?_ | refine YQ.load1 tabOk rfl 0 rfl rfl ?_ | refine YQ.load1 tabOk rfl 1 rfl rfl ?_ | refine YQ.load1 tabOk rfl 2 rfl rfl ?_ | refine YQ.load1 tabOk rfl 3 rfl rfl ?_ | refine YQ.load1 tabOk rfl 4 rfl rfl ?_ | refine YQ.load1 tabOk rfl 5 rfl rfl ?_ | refine YQ.loadF tabOk rfl 0 rfl rfl ?_ | refine YQ.loadF tabOk rfl 1 rfl rfl ?_ | refine YQ.loadF tabOk rfl 2 rfl rfl ?_ | refine YQ.loadF tabOk rfl 3 rfl rfl ?_ | refine YQ.loadF tabOk rfl 4 rfl rfl ?_ | refine YQ.loadF tabOk rfl 5 rfl rfl ?_ | refine YQ.loadA tabOk rfl 0 rfl rfl rfl ?_ | refine YQ.loadA tabOk rfl 1 rfl rfl rfl ?_ | refine YQ.loadA tabOk rfl 2 rfl rfl rfl ?_ | refine YQ.loadA tabOk rfl 3 rfl rfl rfl ?_ | refine YQ.loadA tabOk rfl 4 rfl rfl rfl ?_ | refine YQ.build tabOk rfl rfl rfl ?_ | refine YQ.eqF tabOk rfl rfl rfl ?_ | refine YQ.neF tabOk rfl rfl rfl ?_)
    | (show YU _ _ _ _ _ _ _ _; first | refine YU.store1L tabOk rfl rfl 0 rfl rfl ?_ | refine YU.store1L tabOk rfl rfl 1 rfl rfl ?_ | refine YU.store1L tabOk rfl rfl 2 rfl rfl ?_ | refine YU.store1L tabOk rfl rfl 3 rfl rfl ?_ | refine YU.store1L tabOk rfl rfl 4 rfl rfl ?_ | refine YU.storeF tabOk rfl rfl rfl 0 rfl rfl ?_ | refine YU.storeF tabOk rfl rfl rfl 1 rfl rfl ?_ | refine YU.storeF tabOk rfl rfl rfl 2 rfl rfl ?_ | refine YU.storeF tabOk rfl rfl rfl 3 rfl rfl ?_ | refine YU.storeF tabOk rfl rfl rfl 4 rfl rfl ?_ | refine YU.storeF tabOk rfl rfl rfl 5 rfl rfl ?_ | refine YU.storeAL tabOk rfl rfl rfl 0 rfl rfl ?_ | refine YU.storeAL tabOk rfl rfl rfl 1 rfl rfl ?_ | refine YU.storeAL tabOk rfl rfl rfl 2 rfl rfl ?_ | refine YU.storeAL tabOk rfl rfl rfl 3 rfl rfl ?_ | refine YU.storeAL tabOk rfl rfl rfl 4 rfl rfl ?_)
    | (show Wr _ _ _; first | refine Wr.i64 (by omega) ?_ | refine Wr.u8 (by omega) ?_ | refine Wr.u16 (by omega) ?_ | refine Wr.u32 (by omega) ?_)
    | (show BIf _ _ _; first | refine BIf.pos rfl ?_ | refine BIf.neg rfl ?_)
    | (show Lp _ _ _ _ _; first | (refine Lp.mk (α := Nat) [5] [0, 3] _ (fun k => [.int .i64 ((k : Int) - 1)]) (fun k => [⟨bF, 49, rows lnV F ++ sl⟩, ⟨_, 49, lnV x⟩]) (fun k => k ≤ F.length ∧ lastF (F.take k) x = some x) (fun k => k) rfl rfl F.length ⟨Nat.le_refl _, by rw [List.take_length]; exact hl⟩ rfl ⟨_, rfl⟩ (fun k hk => ?_); rcases k with _ | k))
    | (show Dr _ _ _ _ _ _ _ _ _; first | refine Dr.all (by kernel_rfl) ?_)
    | (show Vc.Fin _ _ _; first | refine Fin.take 1 (And.intro ?_ rfl))
    | refine ⟨k, ⟨by omega, ?_⟩, by omega, (by show some [Value.int _ _] = some [Value.int _ _]; congr 3; omega), ⟨_, rfl⟩⟩
    | intro b)
  all_goals first
    | rfl
    | (exfalso; omega)
    | (have h1 := hk.2; rw [lastF_take (by omega), if_neg (by simp only [lsame, decide_eq_true_eq]; omega)] at h1; exact h1)
    | (show Value.bool _ = Value.bool _; have h1 := hk.2; rw [lastF_take (by omega), if_pos (by simp only [lsame, decide_eq_true_eq]; omega)] at h1; rw [Option.some.inj h1]; congr 1; exact eqB_true.2 ⟨rfl, rfl, rfl, rfl, rfl, trivial⟩)
    | (exfalso; have h1 := hk.2; simp [lastF] at h1; done)
/-- What is filled so far: none, or a block. -/
structure OnceSt where
  i : Nat
  ls : List Ln
  f : Int
  m : Int
  fl : Option (Nat × Nat × List Value × List Ln)
def osF (o : Option (Nat × Nat × List Value × List Ln)) : List Ln := match o with
  | none => []
  | some t => t.2.2.2
def flV (o : Option (Nat × Nat × List Value × List Ln)) : Value := match o with
  | none => .slice none 0 0
  | some t => .slice (some ⟨t.1, 0, none⟩) t.2.2.2.length t.2.1
def flH (o : Option (Nat × Nat × List Value × List Ln)) : Hs := match o with
  | none => []
  | some t => [⟨t.1, 49, rows lnV t.2.2.2 ++ t.2.2.1⟩]
def flC (o : Option (Nat × Nat × List Value × List Ln)) : Prop := match o with
  | none => True
  | some t => t.2.2.2.length ≤ t.2.1 ∧ t.2.2.2.length * 5 + t.2.2.1.length = t.2.1 * 5
theorem Lp.subK {D : List Nat} {F : (Exit → Env → Hs → Prop) → Env → Hs → Prop} {k : Exit → Env → Hs → Prop} {env : Env} {L : Hs} {α : Type} (S Kp : List Nat) (kv : List Value) (vals : α → List Value) (L' : Hs) (Inv : α → Prop) (μ : α → Nat)
      (hk : getAll env Kp = some kv) (hd : disj Kp D = true)
      (x0 : α) (h0 : Inv x0) (hv : getAll env S = some (vals x0)) (hl : Sub L' L)
      (step : ∀ x, Inv x → F (fun e env' L'' => match e with
        | .normal => ∃ x', Inv x' ∧ μ x' < μ x ∧ getAll env' S = some (vals x') ∧ Sub L' L''
        | e => k e env' L'') (zipE S (vals x) (zipE Kp kv [])) L') : Lp D F k env L :=
  Lp.sub S Kp kv vals (fun _ => L') Inv μ hk hd x0 h0 hv hl step
section
variable {P : Program} {w0 : World} {I : List Nat} {T : Tab} {L : Hs} {α : Type} {g : α → List Value} {n : Nat}
theorem YQ.loadRow0 (TO : TabOk P T) {t b o : Nat} {ls : List α} {x : α} {ty : Nat} {K : Value → Prop} (hs : natAt T.ag t = some n) (i j : Nat) (hi : cAt L i = some ⟨b, ty, rows g ls⟩)
    (hg : ∀ x, (g x).length = n) (hj : ls[j]? = some x) (ho : o = j * n) (k : K (.agg (g x).toArray)) : YQ P w0 I L (.load t (.pointer (some ⟨b, o, none⟩))) K :=
  YQ.loadRow (tl := []) TO hs i j (by rw [List.append_nil]; exact hi) hg hj ho k
theorem YQ.loadR0 (TO : TabOk P T) {t b o : Nat} {ls : List α} {x : α} {v : Value} {ty : Nat} {K : Value → Prop} (hs : memB t T.sc = true) (i j : Nat) (hi : cAt L i = some ⟨b, ty, rows g ls⟩)
    (hg : ∀ x, (g x).length = n) (hj : ls[j]? = some x) (c : Nat) (ho : o = j * n + c) (hc : (g x)[c]? = some v) (k : K v) : YQ P w0 I L (.load t (.pointer (some ⟨b, o, none⟩))) K :=
  YQ.loadR (tl := []) TO hs i j (by rw [List.append_nil]; exact hi) hg hj c ho hc k
end
theorem YW.appLn {w0 : World} {I : List Nat} {L : Hs} {b len cap : Nat} {sl : List Value} {x : Value} {K : Value → Hs → Prop} (F : List Ln) (l : Ln) (i : Nat) (hi : cAt L i = some ⟨b, 49, rows lnV F ++ sl⟩) (hc : F.length = len ∧ (len ≤ cap ∧ len * 5 + sl.length = cap * 5) ∧ len ≤ 100)
    (hs : Rdy Try.prog w0 I L 5 53 x 1 (rows lnV [l])) (kk : ∀ b' cap' sl', flC (some (b', cap', sl', F ++ [l])) → K (.slice (some ⟨b', 0, none⟩) (F ++ [l]).length cap') (L.set i ⟨b', 49, rows lnV (F ++ [l]) ++ sl'⟩)) :
    YW Try.prog w0 I L (.append #[53, 53] [.slice (some ⟨b, 0, none⟩) len cap, x]) K := by
  obtain ⟨h1, h2, h3⟩ := hc
  have hl : (rows lnV F).length = F.length * 5 := rows_length lnV_len F
  refine YW.append slLn i hi (by rw [hl]; omega) (by rw [hl]; omega) (by omega) hs (by omega) (fun b' cap' sl' g1 g2 => ?_)
  rw [← rows_append, show len + 1 = (F ++ [l]).length by rw [List.length_append, h1]; rfl]
  refine kk b' cap' sl' ?_
  have g3 : (rows lnV [l]).length = 5 := rfl
  rw [hl, g3] at g2
  show (F ++ [l]).length ≤ cap' ∧ (F ++ [l]).length * 5 + sl'.length = cap' * 5
  rw [List.length_append]
  show F.length + 1 ≤ cap' ∧ (F.length + 1) * 5 + sl'.length = cap' * 5
  omega
theorem YW.appLn0 {w0 : World} {I : List Nat} {L : Hs} {x : Value} {K : Value → Hs → Prop} (l : Ln)
    (hs : Rdy Try.prog w0 I L 5 53 x 1 (rows lnV [l])) (kk : ∀ b' cap' sl', flC (some (b', cap', sl', [l])) → K (.slice (some ⟨b', 0, none⟩) 1 cap') (L ++ [⟨b', 49, rows lnV [l] ++ sl'⟩])) :
    YW Try.prog w0 I L (.append #[53, 53] [.slice none 0 0, x]) K := by
  refine YW.append0 slLn hs (by omega) (by omega) (fun b' cap' sl' g1 g2 => kk b' cap' sl' ?_)
  have g3 : (rows lnV [l]).length = 5 := rfl
  rw [g3] at g2
  show 1 ≤ cap' ∧ 1 * 5 + sl'.length = cap' * 5
  omega
theorem rdyLn {w0 : World} {I : List Nat} {L : Hs} {b c ty : Nat} (l : Ln) (i : Nat) (hi : cAt L i = some ⟨b, ty, lnV l⟩) : Rdy Try.prog w0 I L 5 53 (.slice (some ⟨b, 0, none⟩) 1 c) 1 (rows lnV [l]) :=
  Rdy.own Try.underlying53 i hi rfl rfl (fun v hv => List.all_eq_true.1 (lnV_one l) v hv)
theorem tlbOnce_con (a : Option Addr) (len cap : Nat) (acts : List Ac) (w : World) (hlen : acts.length = len) (ha : Arr w 10 acV a acts) :
    Con Try.prog 5 [.slice a len cap] w [] (fun y L' => y = .bool true ∧ L' = []) := by
  refine Con.of_vc tabOk 127 [.tmp 2] Try.func5 rfl Try.ntmps5 Try.results5 rfl (Own.nil' w) ?_
  repeat' ((conv => whnf); first
    | (show _ ∧ _; first | (obtain ⟨rfl, rfl⟩ := hx; refine ⟨rfl, ?_⟩) | (obtain ⟨b, rfl, rfl⟩ := hx; refine ⟨rfl, ?_⟩) | (obtain ⟨b, c, rfl, rfl⟩ := hx; refine ⟨rfl, ?_⟩))
    | (show gsplit _ _ _; first | refine gsplit.eq (fun hc => ?_) (fun hc => absurd (filled_no (F := []) hst.2.2.1 (x := acts[si]'(by omega)) (fun h => by first | exact absurd h.1 (by assumption) | exact absurd h.2.1 (by assumption) | (have h3 := h.2.2; unfold atP at h3; omega)) j _ (List.getElem?_eq_getElem _) (fun h => hc ((EqP_ln _).2 h))) (by simp [lastF])) | refine gsplit.tt ?_ | refine gsplit.ff ?_ | refine gsplit.dpos (by omega) ?_ | refine gsplit.dneg (by omega) ?_ | refine gsplit.npos (by omega) ?_ | refine gsplit.nneg (by omega) ?_ | refine gsplit.dec (fun hc => ?_) (fun hc => ?_) | refine gsplit.ndec (fun hc => ?_) (fun hc => ?_) | refine gsplit.eq (fun hc => ?_) (fun hc => ?_) | refine gsplit.neq (fun hc => ?_) (fun hc => ?_))
    | (show YQ _ _ _ _ _ _; first | refine qeqp Try.underlying45 ?_ | refine YQ.idxS tabOk rfl ha si (List.getElem?_eq_getElem (by omega)) (by omega) (fun ad hd => ?_) | refine YQ.loadS tabOk hd rfl rfl ?_ | refine YQ.loadR0 tabOk rfl 3 k rfl lnV_len (List.getElem?_eq_getElem (by have := (TI_do hst.2.1 (acts[si]'(by omega))).len; omega)) 0 (by omega) rfl ?_ | refine YQ.loadR0 tabOk rfl 3 j rfl lnV_len (List.getElem?_eq_getElem (by have := (TI_do hst.2.1 (acts[si]'(by omega))).len; omega)) 0 (by omega) rfl ?_ | refine YQ.loadR0 tabOk rfl 3 k rfl lnV_len (List.getElem?_eq_getElem (by have := (TI_do hst.2.1 (acts[si]'(by omega))).len; omega)) 1 (by omega) rfl ?_ | refine YQ.loadR0 tabOk rfl 3 j rfl lnV_len (List.getElem?_eq_getElem (by have := (TI_do hst.2.1 (acts[si]'(by omega))).len; omega)) 1 (by omega) rfl ?_ | refine YQ.loadR0 tabOk rfl 3 k rfl lnV_len (List.getElem?_eq_getElem (by have := (TI_do hst.2.1 (acts[si]'(by omega))).len; omega)) 2 (by omega) rfl ?_ | refine YQ.loadR0 tabOk rfl 3 j rfl lnV_len (List.getElem?_eq_getElem (by have := (TI_do hst.2.1 (acts[si]'(by omega))).len; omega)) 2 (by omega) rfl ?_ | refine YQ.loadRow0 tabOk rfl 3 j rfl lnV_len (List.getElem?_eq_getElem (by have := (TI_do hst.2.1 (acts[si]'(by omega))).len; omega)) (by omega) ?_ | refine YQ.loadRow0 tabOk rfl 2 j rfl lnV_len (List.getElem?_eq_getElem (by have := (TI_do hst.2.1 (acts[si]'(by omega))).len; omega)) (by omega) ?_ | refine YQ.remN (by omega) ?_ | refine YQ.quoN (by omega) ?_ | refine YQ.len tabOk rfl ?_ | refine YQ.idx tabOk rfl (by omega) ?_ | refine YQ.idxA tabOk rfl (by omega) ?_ | refine YQ.sliceA tabOk rfl (by omega) (by omega) ?_ | refine YQ.sliceAll tabOk rfl ?_ | refine YQ.load1 tabOk rfl 0 rfl rfl ?_ | refine YQ.load1 tabOk rfl 1 rfl rfl ?_ | refine YQ.load1 tabOk rfl 2 rfl rfl ?_ | refine YQ.load1 tabOk rfl 3 rfl rfl ?_ | refine YQ.load1 tabOk rfl 4 rfl rfl ?_ | refine YQ.load1 tabOk rfl 5 rfl rfl ?_ | refine YQ.loadF tabOk rfl 0 rfl rfl ?_ | refine YQ.loadF tabOk rfl 1 rfl rfl ?_ | refine YQ.loadF tabOk rfl 2 rfl rfl ?_ | refine YQ.loadF tabOk rfl 3 rfl rfl ?_ | refine YQ.loadF tabOk rfl 4 rfl rfl ?_ | refine YQ.loadF tabOk rfl 5 rfl rfl ?_ | refine YQ.loadA tabOk rfl 0 rfl rfl rfl ?_ | refine YQ.loadA tabOk rfl 1 rfl rfl rfl ?_ | refine YQ.loadA tabOk rfl 2 rfl rfl rfl ?_ | refine YQ.loadA tabOk rfl 3 rfl rfl rfl ?_ | refine YQ.loadA tabOk rfl 4 rfl rfl rfl ?_ | refine YQ.build tabOk rfl rfl rfl ?_ | refine YQ.eqF tabOk rfl rfl rfl ?_ | refine YQ.neF tabOk rfl rfl rfl ?_)
    | (show YC _ _ _ _ _ _ _; first | refine YC.conR [] [] rfl rfl (fun w _ _ => awake3_con w) (fun x L' hx => ?_) | refine YC.conR [] [] rfl rfl (fun w _ _ => new_con w) (fun x L' hx => ?_) | refine YC.conR [0, 1] _ rfl rfl (fun w hw0 hw => does_con _ _ sls hst.2.1 sf sm _ w hw) (fun x L' hx => ?_) | refine YC.conR [] [] rfl rfl (fun w _ _ => lright_con _ w) (fun x L' hx => ?_) | refine YC.conR [0] _ rfl rfl (fun w hw0 hw => lines_con _ _ (TI_do hst.2.1 _).len _ _ w hw) (fun x L' hx => ?_) | refine YC.conR [2] _ rfl rfl (fun w hw0 hw => last_con _ _ _ (fF ++ [_]) _ (by rw [List.length_append]; have := hst.2.2.2.1; show fF.length + 1 ≤ 100; omega) (filled_yes hst.2.2.1 ⟨by assumption, by assumption, by unfold atP; omega⟩ j _ (List.getElem?_eq_getElem _) (fun h => absurd ((EqP_ln _).2 h) (by assumption))) w hw) (fun x L' hx => ?_) | refine YC.conR [2] _ rfl rfl (fun w hw0 hw => last_con _ _ _ fF _ (by omega) (filled_no hst.2.2.1 (fun h => by first | exact absurd h.1 (by assumption) | exact absurd h.2.1 (by assumption) | (have h3 := h.2.2; unfold atP at h3; omega)) j _ (List.getElem?_eq_getElem _) (fun h => absurd ((EqP_ln _).2 h) (by assumption))) w hw) (fun x L' hx => ?_) | refine YC.conR [2] _ rfl rfl (fun w hw0 hw => last_con _ _ _ [_] _ (by simp) (filled_yes hst.2.2.1 ⟨by assumption, by assumption, by unfold atP; omega⟩ j _ (List.getElem?_eq_getElem _) (fun h => absurd ((EqP_ln _).2 h) (by assumption))) w hw) (fun x L' hx => ?_))
    | (show YW _ _ _ _ _ _; first | refine YW.lit slLn rfl (by omega) (fun b => ?_) | refine YW.appLn fF (acts[si]'(by omega)).l 2 rfl ⟨rfl, hst.2.2.2.2, by omega⟩ (rdyLn _ 4 rfl) (fun b' cap' sl' hfl => ?_) | refine YW.appLn0 (acts[si]'(by omega)).l (rdyLn _ 3 rfl) (fun b' cap' sl' hfl => ?_))
    | (show YU _ _ _ _ _ _ _ _; first | refine YU.store1L tabOk rfl rfl 0 rfl rfl ?_ | refine YU.store1L tabOk rfl rfl 1 rfl rfl ?_ | refine YU.store1L tabOk rfl rfl 2 rfl rfl ?_ | refine YU.store1L tabOk rfl rfl 3 rfl rfl ?_ | refine YU.store1L tabOk rfl rfl 4 rfl rfl ?_ | refine YU.storeF tabOk rfl rfl rfl 0 rfl rfl ?_ | refine YU.storeF tabOk rfl rfl rfl 1 rfl rfl ?_ | refine YU.storeF tabOk rfl rfl rfl 2 rfl rfl ?_ | refine YU.storeF tabOk rfl rfl rfl 3 rfl rfl ?_ | refine YU.storeF tabOk rfl rfl rfl 4 rfl rfl ?_ | refine YU.storeF tabOk rfl rfl rfl 5 rfl rfl ?_ | refine YU.storeAL tabOk rfl rfl rfl 0 rfl rfl ?_ | refine YU.storeAL tabOk rfl rfl rfl 1 rfl rfl ?_ | refine YU.storeAL tabOk rfl rfl rfl 2 rfl rfl ?_ | refine YU.storeAL tabOk rfl rfl rfl 3 rfl rfl ?_ | refine YU.storeAL tabOk rfl rfl rfl 4 rfl rfl ?_)
    | (show Wr _ _ _; first | refine Wr.i64 (by omega) ?_ | refine Wr.u8 (by omega) ?_ | refine Wr.u16 (by omega) ?_ | refine Wr.u32 (by omega) ?_)
    | (show BIf _ _ _; first | refine BIf.pos rfl ?_ | refine BIf.neg rfl ?_)
    | (show Lp _ _ _ _ _; first | (refine Lp.sub (α := OnceSt) [7, 6] [0, 3, 4, 5] _ (fun x => [.int .i64 x.i, flV x.fl]) (fun y => tlbE _ y.ls y.f y.m :: tlbR _ y.ls y.f y.m :: flH y.fl) (fun x => x.i ≤ 100 ∧ TI x.ls ∧ Filled x.ls (osF x.fl) ∧ (osF x.fl).length ≤ x.i ∧ flC x.fl) (fun x => 100 - x.i) rfl rfl ⟨0, S0, 0, 0, none⟩ ⟨by simp, TI0, filled_0, by simp [osF], trivial⟩ rfl ⟨[0, 1], rfl, rfl⟩ (fun st hst => ?_); obtain ⟨si, sls, sf, sm, _ | ⟨fB, fcap, fsl, fF⟩⟩ := st <;> (dsimp only [osF, flC] at hst; dsimp only [flV, flH])) | refine Lp.subK (α := Nat) [11] [0, 3, 4, 5, 6, 7, 10] _ (fun i => [.int .i64 i]) [_, _, ⟨_, _, rows lnV (fF ++ [(acts[si]'(by omega)).l]) ++ _⟩, ⟨_, _, rows lnV (doL (acts[si]'(by omega)) sls)⟩] (fun i => i ≤ 8) (fun i => 8 - i) rfl rfl 0 (by omega) rfl ⟨[0, 1, 2, 5], rfl, rfl⟩ (fun j hj => ?_) | refine Lp.subK (α := Nat) [11] [0, 3, 4, 5, 6, 7, 10] _ (fun i => [.int .i64 i]) [_, _, ⟨_, _, rows lnV fF ++ _⟩, ⟨_, _, rows lnV (doL (acts[si]'(by omega)) sls)⟩] (fun i => i ≤ 8) (fun i => 8 - i) rfl rfl 0 (by omega) rfl ⟨[0, 1, 2, 4], rfl, rfl⟩ (fun j hj => ?_) | refine Lp.subK (α := Nat) [11] [0, 3, 4, 5, 6, 7, 10] _ (fun i => [.int .i64 i]) [_, _, ⟨_, _, rows lnV [(acts[si]'(by omega)).l] ++ _⟩, ⟨_, _, rows lnV (doL (acts[si]'(by omega)) sls)⟩] (fun i => i ≤ 8) (fun i => 8 - i) rfl rfl 0 (by omega) rfl ⟨[0, 1, 4, 5], rfl, rfl⟩ (fun j hj => ?_) | refine Lp.subK (α := Nat) [11] [0, 3, 4, 5, 6, 7, 10] _ (fun i => [.int .i64 i]) [_, _, ⟨_, _, rows lnV (doL (acts[si]'(by omega)) sls)⟩] (fun i => i ≤ 8) (fun i => 8 - i) rfl rfl 0 (by omega) rfl ⟨[0, 1, 3], rfl, rfl⟩ (fun j hj => ?_) | refine Lp.subK (α := Nat) [12] [0, 3, 4, 5, 6, 7, 10, 11] _ (fun i => [.int .i64 i]) _ (fun i => i ≤ j) (fun i => j - i) rfl rfl 0 (by omega) rfl ⟨[0, 1, 2, 3], rfl, rfl⟩ (fun k hk => ?_))
    | (show Dr _ _ _ _ _ _ _ _ _; first | refine Dr.all (by kernel_rfl) ?_)
    | (show Vc.Fin _ _ _; first | refine Fin.take 0 (And.intro ?_ rfl))
    | refine ⟨k + 1, by omega, by omega, rfl, [0, 1, 2, 3], rfl, rfl⟩
    | refine ⟨j + 1, by omega, by omega, rfl, [0, 1, 2, 3], rfl, rfl⟩
    | refine ⟨j + 1, by omega, by omega, rfl, [0, 1, 2], rfl, rfl⟩
    | refine ⟨⟨si + 1, doL (acts[si]'(by omega)) sls, doF (acts[si]'(by omega)) sls sf, doM (acts[si]'(by omega)) sls sm, some (_, _, _, fF ++ [(acts[si]'(by omega)).l])⟩, ⟨by show si + 1 ≤ 100; omega, TI_do hst.2.1 _, filled_yes hst.2.2.1 ⟨by assumption, by assumption, by unfold atP; omega⟩, by show (fF ++ [_]).length ≤ si + 1; rw [List.length_append]; have := hst.2.2.2.1; show fF.length + 1 ≤ si + 1; omega, hfl⟩, by show 100 - (si + 1) < 100 - si; omega, rfl, [0, 1, 2], rfl, rfl⟩
    | refine ⟨⟨si + 1, doL (acts[si]'(by omega)) sls, doF (acts[si]'(by omega)) sls sf, doM (acts[si]'(by omega)) sls sm, some (_, _, _, fF)⟩, ⟨by show si + 1 ≤ 100; omega, TI_do hst.2.1 _, filled_no hst.2.2.1 (fun h => by first | exact absurd h.1 (by assumption) | exact absurd h.2.1 (by assumption) | (have h3 := h.2.2; unfold atP at h3; omega)), by show fF.length ≤ si + 1; omega, hst.2.2.2.2⟩, by show 100 - (si + 1) < 100 - si; omega, rfl, [0, 1, 2], rfl, rfl⟩
    | refine ⟨⟨si + 1, doL (acts[si]'(by omega)) sls, doF (acts[si]'(by omega)) sls sf, doM (acts[si]'(by omega)) sls sm, some (_, _, _, [(acts[si]'(by omega)).l])⟩, ⟨by show si + 1 ≤ 100; omega, TI_do hst.2.1 _, filled_yes (F := []) hst.2.2.1 ⟨by assumption, by assumption, by unfold atP; omega⟩, by show 1 ≤ si + 1; omega, hfl⟩, by show 100 - (si + 1) < 100 - si; omega, rfl, [0, 1, 2], rfl, rfl⟩
    | refine ⟨⟨si + 1, doL (acts[si]'(by omega)) sls, doF (acts[si]'(by omega)) sls sf, doM (acts[si]'(by omega)) sls sm, none⟩, ⟨by show si + 1 ≤ 100; omega, TI_do hst.2.1 _, filled_no hst.2.2.1 (fun h => by first | exact absurd h.1 (by assumption) | exact absurd h.2.1 (by assumption) | (have h3 := h.2.2; unfold atP at h3; omega)), by show 0 ≤ si + 1; omega, trivial⟩, by show 100 - (si + 1) < 100 - si; omega, rfl, [0, 1], rfl, rfl⟩
    | intro b)
  all_goals first
    | (show Value.bool _ = Value.bool _; rfl)
    | contradiction
    | (exfalso; omega)
    | (exfalso; have h1 := (TI_do hst.2.1 (acts[si]'(by omega))).one j k _ _ (List.getElem?_eq_getElem (by have := (TI_do hst.2.1 (acts[si]'(by omega))).len; omega)) (List.getElem?_eq_getElem (by have := (TI_do hst.2.1 (acts[si]'(by omega))).len; omega)) (fun h => absurd ((EqP_ln _).2 h) (by assumption)) (by simp only [lsame, decide_eq_true_eq]; omega); omega)
    | (exfalso; have h1 := filled_no hst.2.2.1 (x := acts[si]'(by omega)) (fun h => by first | exact absurd h.1 (by assumption) | exact absurd h.2.1 (by assumption) | (have h3 := h.2.2; unfold atP at h3; omega)) j _ (List.getElem?_eq_getElem (by have := (TI_do hst.2.1 (acts[si]'(by omega))).len; omega)) (fun h => absurd ((EqP_ln _).2 h) (by assumption)); simp [lastF] at h1; done)
theorem tlbOnce_walk (a0 : Option Addr) (len0 cap0 n0 : Nat) {W : World} (rd0 : Rd Try.prog W n0 44 (Value.slice a0 len0 cap0).cells.toList) :
    Calls Try.prog 5 #[.slice a0 len0 cap0] W fun e w' => e = .returned (.bool true) ∧ RowKit.Below W.heap.size W w' := by
  obtain ⟨acts, h1, h2, h3, h4⟩ := rd_acts rd0
  exact (tlbOnce_con a0 len0 cap0 acts W h1 h4).law
end Go.Proofs.Ytfamidjdhahfiaa
