/- Slices that were handed in: what stands in them is read, as long as nothing of it is owned. Conditions: none. -/
import Derived.Test.YtggbhokhibfdmaaVh
import Derived.Test.YtggbhokhibfdmaaFrame
set_option linter.unusedVariables false
set_option linter.unusedSimpArgs false
set_option linter.unusedSectionVars false
namespace Go.Proofs.Ytggbhokhibfdmaa
namespace Vc
/-- What stands at an address. -/
def At (w : World) (ad : Addr) (vs : List Value) : Prop := ∀ c u, vs[c]? = some u → w.cell? (ad.add c) = some u
/-- A slice's elements, n cells each. -/
def Arr {α : Type} (w : World) (n : Nat) (g : α → List Value) (a : Option Addr) (ls : List α) : Prop := ∀ (j : Nat) x, ls[j]? = some x → ∃ ad, a = some ad ∧ At w (ad.add (j * n)) (g x)
theorem add_block (a : Addr) (n : Nat) : (a.add n).block = a.block := by unfold Addr.add; split <;> rfl
theorem cell_block {w w' : World} {a : Addr} (h : w'.heap[a.block]? = w.heap[a.block]?) : w'.cell? a = w.cell? a := by
  simp only [World.cell?, h]
theorem Hp.far {w0 w : World} {L : Hs} (hw : Hp w0 [] w L) {a : Addr} {v : Value} (h : w0.cell? a = some v) : w.cell? a = some v := by
  have hb : a.block < w0.heap.size := by
    rcases Nat.lt_or_ge a.block w0.heap.size with h1 | h1
    · exact h1
    · rw [World.cell?, Array.getElem?_eq_none h1] at h
      simp at h
  rw [cell_block (hw.rest a.block hb (by simp))]
  exact h
section
variable {P : Program} {w0 : World} {T : Tab} {L : Hs} {α : Type} {g : α → List Value} {n : Nat}
theorem YQ.idxS (TO : TabOk P T) {I : List Nat} {t len cap : Nat} {a : Option Addr} {ls : List α} {x : α} {kd : IntKind} {i : Int} {K : Value → Prop} (hs : natAt T.el t = some n) (ha : Arr w0 n g a ls) (j : Nat) (hj : ls[j]? = some x)
    (hi : i = j ∧ j < len) (k : ∀ ad, At w0 ad (g x) → K (.pointer (some ad))) : YQ P w0 I L (.indexAddr t (.slice a len cap) (.int kd i)) K := by
  obtain ⟨ad, rfl, hd⟩ := ha j x hj
  obtain ⟨e, hu, hz⟩ := el_spec TO hs
  obtain ⟨rfl, hl⟩ := hi
  refine YQ.val (.pointer (some (ad.add (j * n)))) (fun w => ?_) (k _ hd)
  have h1 : (0 : Int) ≤ j ∧ (j : Int) < len := by omega
  simp only [Rq.sem, Instr.indexAt, asIntOf, Sem.run_bind, Sem.run_pure, Result.andThen_ok, run_underlying hu, h1, and_self, if_true, hz, Int.toNat_natCast]
theorem YQ.loadS (TO : TabOk P T) {t m : Nat} {ad : Addr} {vs : List Value} {K : Value → Prop} (hd : At w0 ad vs) (hs : natAt T.ag t = some m) (hl : vs.length = m) (k : K (.agg vs.toArray)) :
    YQ P w0 [] L (.load t (.pointer (some ad))) K := by
  refine ⟨.agg vs.toArray, fun w hw => ?_, k⟩
  have h1 := (ag_spec TO hs).1 w
  have h2 := (ag_spec TO hs).2 w
  have h3 := run_loadCells_list (P := P) w ad vs (fun j v hj => hw.far (hd j v hj))
  rw [hl] at h3
  simp only [Rq.sem, Instr.loadAt, Instr.sureAddr, Sem.run_bind, Sem.run_pure, Result.andThen_ok, loadVar, h1, if_true, h2, h3]
theorem add_zero (a : Addr) : a.add 0 = a := by unfold Addr.add; split <;> simp_all
theorem YQ.loadS1 (TO : TabOk P T) {t : Nat} {ad : Addr} {v : Value} {K : Value → Prop} (hd : At w0 ad [v]) (hs : memB t T.sc = true) (k : K v) : YQ P w0 [] L (.load t (.pointer (some ad))) K := by
  refine ⟨v, fun w hw => ?_, k⟩
  have h1 := (sc_spec TO hs).1 w
  have h2 := hw.far (hd 0 v rfl)
  rw [add_zero] at h2
  simp only [Rq.sem, Instr.loadAt, Instr.sureAddr, Sem.run_bind, Sem.run_pure, Result.andThen_ok, loadVar, h1, Bool.false_eq_true, if_false]
  simp [load, Sem.run, h2]
end
/-- A slice argument, opened. -/
theorem rd_arr {P : Program} {w : World} {n : Nat} {t e : TypeId} {a : Option Addr} {len cap m : Nat} {α : Type} {g : α → List Value} (h : Rd P w n t (Value.slice a len cap).cells.toList) (hu : P.underlying t = some (.slice e)) (hm : P.cellsOf e = m)
    (hr : ∀ (k : Nat) (es : List Value), es.length = m → Rd P w k e es → ∃ x : α, es = g x) : ∃ ls : List α, ls.length = len ∧ len ≤ cap ∧ len * P.bytesOf e ≤ reachBytes ∧ Arr w m g a ls := by
  rcases rd_slice h hu with h0 | ⟨ad, len', cap', k, h1, h2, h3, h4⟩
  · simp [Value.cells] at h0
    obtain ⟨rfl, rfl, rfl⟩ := h0
    exact ⟨[], rfl, Nat.le_refl _, by simp, fun j x hj => by simp at hj⟩
  · simp [Value.cells] at h1
    obtain ⟨rfl, rfl, rfl⟩ := h1
    rw [hm] at h4
    have h5 : ∀ i, i < len → ∃ x : α, At w (ad.add (i * m)) (g x) := by
      intro i hi
      obtain ⟨es, hl, hc, hR⟩ := h4 i hi
      obtain ⟨x, rfl⟩ := hr k es hl hR
      refine ⟨x, fun c u hcu => ?_⟩
      rw [hc c (by rw [← hl]; exact (List.getElem?_eq_some_iff.1 hcu).1), hcu]
    refine ⟨(List.range len).attach.map (fun i => Classical.choose (h5 i.1 (List.mem_range.1 i.2))), by simp, h2, h3, ?_⟩
    intro j x hj
    refine ⟨ad, rfl, ?_⟩
    rw [List.getElem?_map] at hj
    obtain ⟨i, hi, rfl⟩ := Option.map_eq_some_iff.1 hj
    have : i.1 = j := by
      obtain ⟨h6, h7⟩ := List.getElem?_eq_some_iff.1 hi
      rw [← h7]
      simp
    obtain ⟨i, hi'⟩ := i
    dsimp only at this
    subst this
    exact Classical.choose_spec (h5 i (List.mem_range.1 hi'))
end Vc
end Go.Proofs.Ytggbhokhibfdmaa
