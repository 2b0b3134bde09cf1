/- Rows of records behind a prefix. Conditions: none. -/
import Derived.Test.YtggbhokhibfdmaaVm
set_option linter.unusedVariables false
set_option linter.unusedSimpArgs false
set_option linter.unusedSectionVars false
set_option maxRecDepth 10000
namespace Go.Proofs.Ytggbhokhibfdmaa
namespace Vc
section
variable {P : Program} {w0 : World} {I : List Nat} {T : Tab} {L : Hs} {α : Type} {g : α → List Value} {n : Nat}
theorem YQ.loadRowP (TO : TabOk P T) {t b o : Nat} {pre tl : List Value} {ls : List α} {x : α} {ty : Nat} {K : Value → Prop} (hs : natAt T.ag t = some n) (i j : Nat) (hi : cAt L i = some ⟨b, ty, pre ++ (rows g ls ++ tl)⟩)
    (hg : ∀ x, (g x).length = n) (hj : ls[j]? = some x) (ho : o = pre.length + j * n) (k : K (.agg (g x).toArray)) : YQ P w0 I L (.load t (.pointer (some ⟨b, o, none⟩))) K := by
  subst ho
  exact YQ.loadA TO hs i hi (by rw [← List.drop_drop, List.drop_left]; exact rows_block hg hj) (hg x) k
theorem YU.storeRowP (TO : TabOk P T) {t b o : Nat} {pre tl : List Value} {ls : List α} {vs : List Value} {ty : Nat} {K : Hs → Prop} (hs : natAt T.ag t = some n) (i j : Nat) (hi : cAt L i = some ⟨b, ty, pre ++ (rows g ls ++ tl)⟩)
    (hg : ∀ x, (g x).length = n) (hj : j < ls.length) (ho : o = pre.length + j * n) (y : α) (hy : vs = g y) (h1 : (g y).all (·.oneCell') = true) (k : K (L.set i ⟨b, ty, pre ++ (rows g (ls.set j y) ++ tl)⟩)) :
    YU P w0 I L t (.pointer (some ⟨b, o, none⟩)) (.agg vs.toArray) K := by
  subst ho
  subst hy
  have hl : (rows g ls).length = ls.length * n := rows_length hg ls
  have : j * n + n ≤ ls.length * n := by rw [← Nat.succ_mul]; exact Nat.mul_le_mul_right n hj
  refine YU.storeA TO hs (hg y) h1 i hi (by rw [List.length_append, List.length_append, hl]; omega) ?_
  have e : (pre ++ (rows g ls ++ tl)).take (pre.length + j * n) ++ g y ++ (pre ++ (rows g ls ++ tl)).drop (pre.length + j * n + n) = pre ++ (rows g (ls.set j y) ++ tl) := by
    rw [← rows_set hg y hj, List.take_length_add_append, Nat.add_assoc, List.drop_length_add_append]
    simp only [List.append_assoc]
  rw [e]
  exact k
theorem YQ.loadTP (TO : TabOk P T) {t b o : Nat} {pre tl : List Value} {ls : List α} {v : Value} {ty : Nat} {K : Value → Prop} (hs : memB t T.sc = true) (i : Nat) (hi : cAt L i = some ⟨b, ty, pre ++ (rows g ls ++ tl)⟩)
    (hg : ∀ x, (g x).length = n) (c : Nat) (ho : o = pre.length + ls.length * n + c) (hc : tl[c]? = some v) (k : K v) : YQ P w0 I L (.load t (.pointer (some ⟨b, o, none⟩))) K := by
  subst ho
  exact YQ.load1 TO hs i hi (by rw [Nat.add_assoc, List.getElem?_append_right (by omega), Nat.add_sub_cancel_left, rows_tail hg]; exact hc) k
theorem YU.storeTP (TO : TabOk P T) {t b o : Nat} {pre tl : List Value} {ls : List α} {v : Value} {ty : Nat} {K : Hs → Prop} (hs : memB t T.sc = true) (hv : v.oneCell' = true) (i : Nat) (hi : cAt L i = some ⟨b, ty, pre ++ (rows g ls ++ tl)⟩)
    (hg : ∀ x, (g x).length = n) (c : Nat) (ho : o = pre.length + ls.length * n + c) (hc : c < tl.length) (k : K (L.set i ⟨b, ty, pre ++ (rows g ls ++ tl.set c v)⟩)) : YU P w0 I L t (.pointer (some ⟨b, o, none⟩)) v K := by
  subst ho
  refine YU.store1 TO hs hv i hi (by rw [List.length_append, List.length_append, rows_length hg]; omega) ?_
  rw [Nat.add_assoc, List.set_append_right _ _ (by omega), Nat.add_sub_cancel_left, rows_tset hg]
  exact k
/-- A slice against nil. -/
theorem equalIn_nils {t e : TypeId} {p : Option Addr} {l c : Nat} (ht : P.underlying t = some (.slice e)) (w : World) (d : Nat) : (Op.equalIn (d + 1) t (.slice p l c) (.slice none 0 0)).run P w = .ok p.isNone w := by
  simp only [Op.equalIn, Sem.run_bind, run_underlying ht, Result.andThen_ok]
  cases p <;> rfl
theorem equal_nils {t e : TypeId} {p : Option Addr} {l c : Nat} (ht : P.underlying t = some (.slice e)) (w : World) : (Op.equal t (.slice p l c) (.slice none 0 0)).run P w = .ok p.isNone w := equalIn_nils ht w 9999
theorem qeqs {t e : TypeId} {x y : Operand} {p : Option Addr} {l c : Nat} {K : Value → Prop} (ht : P.underlying t = some (.slice e)) (k : K (.bool p.isNone)) :
    YQ P w0 I L (.bin .eql t x y (.slice p l c) (.slice none 0 0)) K :=
  ⟨_, fun w _ => by
    show (do eqGuard .eql t x y (.slice p l c) (.slice none 0 0); binOp .eql t (.slice p l c) (.slice none 0 0) : Sem Value).run P w = _
    have : (eqGuard .eql t x y (.slice p l c) (.slice none 0 0)).run P w = .ok () w := by simp [eqGuard, Sem.run]
    rw [Sem.run_bind, this]
    have h2 := equal_nils (p := p) (l := l) (c := c) ht w
    simp only [binOp, Sem.run_bind, h2, Result.andThen_ok, Sem.run_pure], k⟩
end
end Vc
end Go.Proofs.Ytggbhokhibfdmaa
