/- How a law's arguments read as typed cells, and how a contract without blocks of its own answers the row. Conditions: none. -/
import Derived.Test.YtggbhokhibfdmaaVe
import Derived.Deep.Slices
import Derived.ProofKit
import Derived.OpenShut
import Derived.Below
import Derived.SizedLaws
set_option linter.unusedVariables false
set_option linter.unusedSimpArgs false
namespace Go.Proofs.Ytggbhokhibfdmaa
namespace Vc
open Go.ChangeShapes Go.WideShapes Go.ChangeAt Go.RowKit Go.Deep

/-- Cells that read as a type, n steps deep. -/
def Rd (P : Program) (w : World) : Nat → TypeId → List Value → Prop
  | 0, _, _ => False
  | n + 1, t, cs =>
    (∀ k, P.underlying t = some (.int k) → ∃ x, cs = [.int k x] ∧ (Lit.int k x).wf = true) ∧
    (P.underlying t = some .bool → ∃ b, cs = [.bool b]) ∧
    (∀ fs, P.underlying t = some (.struct fs) → cs.length = P.cellsOf t ∧ ∀ (i : Nat) f, fs[i]? = some f → Rd P w n f.type ((cs.drop f.offset).take (P.cellsOf f.type))) ∧
    (∀ e, P.underlying t = some (.slice e) → cs = [.slice none 0 0] ∨ ∃ (a : Addr) (len cap : Nat), cs = [.slice (some a) len cap] ∧ len ≤ cap ∧ len * P.bytesOf e ≤ reachBytes ∧
      ∀ i, i < len → ∃ es : List Value, es.length = P.cellsOf e ∧ (∀ j, j < P.cellsOf e → w.cell? ((a.add (i * P.cellsOf e)).add j) = es[j]?) ∧ Rd P w n e es)

theorem mem_weightsAll {H : Type} {P : Program} {e : TypeId} : ∀ {ds : List (DataW H)} {d : DataW H} {k : Nat}, d ∈ ds → k ∈ d.weights P e → k ∈ DataW.weightsAll P e ds
  | d0 :: r, d, k, hd, hk => by
    rw [DataW.weightsAll, List.mem_append]
    rcases List.mem_cons.1 hd with rfl | hd
    · exact .inl hk
    · exact .inr (mem_weightsAll hd hk)
theorem rd_of_trod {H : Type} {enc : TypeId × Value → H} {P : Program} {w : World} {base : Nat} {held : Bool} : ∀ (n : Nat) {t : TypeId} {cs : List Value} {x : DataW H × List MemPlace},
    DataW.trod enc P w base (fun _ => true) held n t cs = some x → (∀ k ∈ x.1.weights P t, k ≤ reachBytes) → Rd P w n t cs
  | 0, t, cs, x, h, hw => by simp [DataW.trod] at h
  | n + 1, t, cs, x, h, hw => by
    refine ⟨fun k hk => ?_, fun hb => ?_, fun fs hs => ?_, fun e he => ?_⟩
    · obtain ⟨m, h1, _, h2⟩ := DataW.trod_int hk h
      exact ⟨m, h1, h2⟩
    · obtain ⟨b, h1, _⟩ := DataW.trod_bool hb h
      exact ⟨b, h1⟩
    · obtain ⟨xs, m, hm, hx1, h2, h3, h4⟩ := DataW.trod_struct hs h
      obtain rfl : n = m := by omega
      refine ⟨h2, fun i f hf => ?_⟩
      have hx := h4 i f hf
      have hi : i < xs.length := by rw [h3]; exact (Array.getElem?_eq_some_iff.1 hf).1
      rw [List.getElem?_eq_getElem hi] at hx
      refine rd_of_trod n hx (fun k hk => hw k ?_)
      rw [hx1]
      simp only [DataW.weights, hs]
      exact DataW.weights_mem_each (j := i) (by rw [List.getElem?_map, Array.getElem?_toList, hf]; rfl) (by rw [List.getElem?_map, List.getElem?_eq_getElem hi]; rfl) k hk
    · rcases DataW.trod_slice he h with ⟨h0, _⟩ | ⟨a, len, cap, elems, rest, m, hm, h1, hx1, hb, hl, hc, hlen, hel, _⟩
      · exact .inl h0
      · obtain rfl : n = m := by omega
        have hwt : ∀ k, k ∈ DataW.weights P t (.slice (elems.map (·.1)) (rest.map (·.1))) → k ≤ reachBytes := by
          intro k hk
          refine hw k ?_
          rw [hx1]
          exact hk
        have hsz : len * P.bytesOf e ≤ reachBytes := by
          have := hwt (((elems.map (·.1)).length + (rest.map (·.1)).length) * P.bytesOf e) (by simp [DataW.weights, he])
          rw [List.length_map, hlen] at this
          exact Nat.le_trans (Nat.mul_le_mul_right _ (Nat.le_add_right _ _)) this
        refine .inr ⟨a, len, cap, h1, hl, hsz, fun i hi => ?_⟩
        have hx := hel i hi
        rw [List.getElem?_eq_getElem (by omega)] at hx
        obtain ⟨es, hes, ht⟩ := Option.bind_eq_some_iff.1 hx
        obtain ⟨_, h2, h3⟩ := World.cells?_some hes
        refine ⟨es, h2, fun j hj => h3 j hj, rd_of_trod n ht (fun k hk => hwt k ?_)⟩
        simp only [DataW.weights, he, List.mem_cons, List.mem_append]
        exact .inr (.inl (mem_weightsAll (List.mem_map.2 ⟨_, List.getElem_mem _, rfl⟩) hk))

theorem rd_int {P : Program} {w : World} {n : Nat} {t : TypeId} {k : IntKind} {cs : List Value} (h : Rd P w n t cs) (hu : P.underlying t = some (.int k)) : ∃ x, cs = [.int k x] ∧ (Lit.int k x).wf = true := by
  cases n with
  | zero => exact h.elim
  | succ n => exact h.1 k hu
theorem rd_bool {P : Program} {w : World} {n : Nat} {t : TypeId} {cs : List Value} (h : Rd P w n t cs) (hu : P.underlying t = some .bool) : ∃ b, cs = [.bool b] := by
  cases n with
  | zero => exact h.elim
  | succ n => exact h.2.1 hu
theorem rd_struct {P : Program} {w : World} {n : Nat} {t : TypeId} {fs : Array Field} {cs : List Value} (h : Rd P w n t cs) (hu : P.underlying t = some (.struct fs)) :
    cs.length = P.cellsOf t ∧ ∃ m, ∀ (i : Nat) f, fs[i]? = some f → Rd P w m f.type ((cs.drop f.offset).take (P.cellsOf f.type)) := by
  cases n with
  | zero => exact h.elim
  | succ n => exact ⟨(h.2.2.1 fs hu).1, n, (h.2.2.1 fs hu).2⟩
theorem rd_slice {P : Program} {w : World} {n : Nat} {t e : TypeId} {cs : List Value} (h : Rd P w n t cs) (hu : P.underlying t = some (.slice e)) :
    cs = [.slice none 0 0] ∨ ∃ (a : Addr) (len cap m : Nat), cs = [.slice (some a) len cap] ∧ len ≤ cap ∧ len * P.bytesOf e ≤ reachBytes ∧
      ∀ i, i < len → ∃ es : List Value, es.length = P.cellsOf e ∧ (∀ j, j < P.cellsOf e → w.cell? ((a.add (i * P.cellsOf e)).add j) = es[j]?) ∧ Rd P w m e es := by
  cases n with
  | zero => exact h.elim
  | succ n =>
    rcases h.2.2.2 e hu with h0 | ⟨a, len, cap, h1, h2, h3, h4⟩
    · exact .inl h0
    · exact .inr ⟨a, len, cap, n, h1, h2, h3, h4⟩
theorem wf_i64 {x : Int} (h : (Lit.int .i64 x).wf = true) : -9223372036854775808 ≤ x ∧ x ≤ 9223372036854775807 := by
  simp only [Lit.wf, Bool.and_eq_true, decide_eq_true_eq] at h
  rw [show IntKind.i64.min = -9223372036854775808 from rfl, show IntKind.i64.max = 9223372036854775807 from rfl] at h
  exact h
theorem wf_u16 {x : Int} (h : (Lit.int .u16 x).wf = true) : 0 ≤ x ∧ x ≤ 65535 := by
  simp only [Lit.wf, Bool.and_eq_true, decide_eq_true_eq] at h
  rw [show IntKind.u16.min = 0 from rfl, show IntKind.u16.max = 65535 from rfl] at h
  exact h
theorem wf_u32 {x : Int} (h : (Lit.int .u32 x).wf = true) : 0 ≤ x ∧ x ≤ 4294967295 := by
  simp only [Lit.wf, Bool.and_eq_true, decide_eq_true_eq] at h
  rw [show IntKind.u32.min = 0 from rfl, show IntKind.u32.max = 4294967295 from rfl] at h
  exact h
theorem wf_u8 {x : Int} (h : (Lit.int .u8 x).wf = true) : 0 ≤ x ∧ x ≤ 255 := by
  simp only [Lit.wf, Bool.and_eq_true, decide_eq_true_eq] at h
  rw [show IntKind.u8.min = 0 from rfl, show IntKind.u8.max = 255 from rfl] at h
  exact h

theorem Hp.below {w w' : World} {L : Hs} (h : Hp w [] w' L) : Below w.heap.size w w' :=
  ⟨h.os, h.tape, h.output, h.size, fun k hk => h.rest k hk (by simp)⟩

theorem Con.law {P : Program} {f : FuncId} {args : List Value} {w : World} (h : Con P f args w [] (fun x L' => x = .bool true ∧ L' = [])) :
    Calls P f args.toArray w (fun e w' => e = .returned (.bool true) ∧ Below w.heap.size w w') :=
  Calls.mono h.out fun _ _ ⟨v, L', he, hp, hv, _⟩ => ⟨by rw [he, hv], hp.below⟩
end Vc
end Go.Proofs.Ytggbhokhibfdmaa
