/- Rows of records, one behind the other in a block, and arrays of them as values. Conditions: none. -/
import Derived.Test.YtggbhokhibfdmaaVg
set_option linter.unusedVariables false
set_option linter.unusedSimpArgs false
set_option linter.unusedSectionVars false
namespace Go.Proofs.Ytggbhokhibfdmaa
namespace Vc
section
variable {α : Type} {g : α → List Value} {n : Nat}
def rows (g : α → List Value) (ls : List α) : List Value := (ls.map g).flatten
theorem rows_nil : rows g [] = [] := rfl
theorem rows_cons (x : α) (ls : List α) : rows g (x :: ls) = g x ++ rows g ls := rfl
theorem rows_append (a b : List α) : rows g (a ++ b) = rows g a ++ rows g b := by simp [rows]
theorem rows_length (hg : ∀ x, (g x).length = n) : ∀ ls : List α, (rows g ls).length = ls.length * n
  | [] => by simp [rows]
  | x :: ls => by rw [rows_cons, List.length_append, rows_length hg ls, hg, List.length_cons, Nat.succ_mul, Nat.add_comm]
theorem rows_split {ls : List α} {j : Nat} {x : α} (hj : ls[j]? = some x) : rows g ls = rows g (ls.take j) ++ (g x ++ rows g (ls.drop (j + 1))) := by
  obtain ⟨h, rfl⟩ := List.getElem?_eq_some_iff.1 hj
  rw [← rows_cons, ← rows_append, ← List.drop_eq_getElem_cons h, List.take_append_drop]
theorem rows_take_length (hg : ∀ x, (g x).length = n) {ls : List α} {j : Nat} (hj : j ≤ ls.length) : (rows g (ls.take j)).length = j * n := by
  rw [rows_length hg, List.length_take, Nat.min_eq_left hj]
theorem rows_cell (hg : ∀ x, (g x).length = n) {ls : List α} {tl : List Value} {j c : Nat} {x : α} (hj : ls[j]? = some x) {v : Value} (hc : (g x)[c]? = some v) : (rows g ls ++ tl)[j * n + c]? = some v := by
  have hl := rows_take_length hg (ls := ls) (j := j) (Nat.le_of_lt (List.getElem?_eq_some_iff.1 hj).1)
  have hcl := (List.getElem?_eq_some_iff.1 hc).1
  rw [rows_split hj, List.append_assoc, List.getElem?_append_right (by omega), hl, Nat.add_sub_cancel_left, List.append_assoc, List.getElem?_append_left (by omega), hc]
theorem rows_block (hg : ∀ x, (g x).length = n) {ls : List α} {tl : List Value} {j : Nat} {x : α} (hj : ls[j]? = some x) : ((rows g ls ++ tl).drop (j * n)).take n = g x := by
  have hl := rows_take_length hg (ls := ls) (j := j) (Nat.le_of_lt (List.getElem?_eq_some_iff.1 hj).1)
  rw [rows_split hj, List.append_assoc, ← hl, List.drop_left, List.append_assoc]
  conv => lhs; arg 1; rw [← hg x]
  rw [List.take_left]
theorem rows_set (hg : ∀ x, (g x).length = n) {ls : List α} {tl : List Value} {j : Nat} (y : α) (hj : j < ls.length) :
    (rows g ls ++ tl).take (j * n) ++ g y ++ (rows g ls ++ tl).drop (j * n + n) = rows g (ls.set j y) ++ tl := by
  have hl := rows_take_length hg (ls := ls) (j := j) (Nat.le_of_lt hj)
  have hx : ls[j]? = some ls[j] := List.getElem?_eq_getElem hj
  rw [List.set_eq_take_append_cons_drop, if_pos hj, rows_append, rows_cons, rows_split hx]
  generalize rows g (ls.take j) = A at hl ⊢
  generalize rows g (ls.drop (j + 1)) = B
  have hy := hg ls[j]
  generalize g ls[j] = C at hy
  subst hy
  rw [← hl]
  have e1 : (A ++ (C ++ B) ++ tl).take A.length = A := by rw [List.append_assoc, List.take_left]
  have e2 : (A ++ (C ++ B) ++ tl).drop (A.length + C.length) = B ++ tl := by
    rw [← List.drop_drop, List.append_assoc, List.drop_left, List.append_assoc, List.drop_left]
  rw [e1, e2]
  simp
theorem rows_setc (hg : ∀ x, (g x).length = n) {ls : List α} {tl : List Value} {j c : Nat} {x : α} (y : α) {v : Value} (hj : ls[j]? = some x) (hy : g y = (g x).set c v) (hc : c < n) :
    (rows g ls ++ tl).set (j * n + c) v = rows g (ls.set j y) ++ tl := by
  have hlt := (List.getElem?_eq_some_iff.1 hj).1
  have hl := rows_take_length hg (ls := ls) (j := j) (Nat.le_of_lt hlt)
  rw [rows_split hj, List.append_assoc, List.set_append_right _ _ (by omega), hl, Nat.add_sub_cancel_left, List.append_assoc, List.set_append_left _ _ (by rw [hg]; omega), ← hy]
  rw [List.set_eq_take_append_cons_drop, if_pos hlt, rows_append, rows_cons]
  simp
theorem rows_tail (hg : ∀ x, (g x).length = n) {ls : List α} {tl : List Value} {c : Nat} : (rows g ls ++ tl)[ls.length * n + c]? = tl[c]? := by
  rw [List.getElem?_append_right (by rw [rows_length hg]; omega), rows_length hg, Nat.add_sub_cancel_left]
theorem rows_tset (hg : ∀ x, (g x).length = n) {ls : List α} {tl : List Value} {c : Nat} {v : Value} : (rows g ls ++ tl).set (ls.length * n + c) v = rows g ls ++ tl.set c v := by
  rw [List.set_append_right _ _ (by rw [rows_length hg]; omega), rows_length hg, Nat.add_sub_cancel_left]
end

/-- That the elements of an array are kept as rows of cells. -/
def aeOk (P : Program) (t : Nat) : Bool := match P.underlying t with
  | some (.array _ e) => match P.underlying e with
    | some (.struct _) => true
    | some (.array _ _) => true
    | _ => false
  | _ => false

section
variable {P : Program} {w0 : World} {I : List Nat} {T : Tab} {L : Hs} {α : Type} {g : α → List Value} {n : Nat}
theorem YQ.loadR (TO : TabOk P T) {t b o : Nat} {ls : List α} {tl : List Value} {x : α} {v : Value} {ty : Nat} {K : Value → Prop} (hs : memB t T.sc = true) (i j : Nat) (hi : cAt L i = some ⟨b, ty, rows g ls ++ tl⟩)
    (hg : ∀ x, (g x).length = n) (hj : ls[j]? = some x) (c : Nat) (ho : o = j * n + c) (hc : (g x)[c]? = some v) (k : K v) : YQ P w0 I L (.load t (.pointer (some ⟨b, o, none⟩))) K := by
  subst ho
  exact YQ.load1 TO hs i hi (rows_cell hg hj hc) k
theorem YQ.loadT (TO : TabOk P T) {t b o : Nat} {ls : List α} {tl : List Value} {v : Value} {ty : Nat} {K : Value → Prop} (hs : memB t T.sc = true) (i : Nat) (hi : cAt L i = some ⟨b, ty, rows g ls ++ tl⟩)
    (hg : ∀ x, (g x).length = n) (c : Nat) (ho : o = ls.length * n + c) (hc : tl[c]? = some v) (k : K v) : YQ P w0 I L (.load t (.pointer (some ⟨b, o, none⟩))) K := by
  subst ho
  exact YQ.load1 TO hs i hi (by rw [rows_tail hg]; exact hc) k
theorem YU.storeT (TO : TabOk P T) {t b o : Nat} {ls : List α} {tl : List Value} {v : Value} {ty : Nat} {K : Hs → Prop} (hs : memB t T.sc = true) (hv : v.oneCell' = true) (i : Nat) (hi : cAt L i = some ⟨b, ty, rows g ls ++ tl⟩)
    (hg : ∀ x, (g x).length = n) (c : Nat) (ho : o = ls.length * n + c) (hc : c < tl.length) (k : K (L.set i ⟨b, ty, rows g ls ++ tl.set c v⟩)) : YU P w0 I L t (.pointer (some ⟨b, o, none⟩)) v K := by
  subst ho
  exact YU.store1 TO hs hv i hi (by rw [List.length_append, rows_length hg]; omega) (by rw [rows_tset hg]; exact k)
theorem YU.storeRc (TO : TabOk P T) {t b o : Nat} {ls : List α} {tl : List Value} {x : α} {v : Value} {ty : Nat} {K : Hs → Prop} (hs : memB t T.sc = true) (hv : v.oneCell' = true) (i j : Nat) (hi : cAt L i = some ⟨b, ty, rows g ls ++ tl⟩)
    (hg : ∀ x, (g x).length = n) (hj : ls[j]? = some x) (c : Nat) (ho : o = j * n + c) (hc : c < n) (y : α) (hy : g y = (g x).set c v) (k : K (L.set i ⟨b, ty, rows g (ls.set j y) ++ tl⟩)) : YU P w0 I L t (.pointer (some ⟨b, o, none⟩)) v K := by
  subst ho
  have hl : (rows g ls).length = ls.length * n := rows_length hg ls
  have hlt := (List.getElem?_eq_some_iff.1 hj).1
  have : j * n + n ≤ ls.length * n := by rw [← Nat.succ_mul]; exact Nat.mul_le_mul_right n hlt
  exact YU.store1 TO hs hv i hi (by rw [List.length_append, hl]; omega) (by rw [rows_setc hg y hj hy hc]; exact k)
theorem YQ.loadRow (TO : TabOk P T) {t b o : Nat} {ls : List α} {tl : List Value} {x : α} {ty : Nat} {K : Value → Prop} (hs : natAt T.ag t = some n) (i j : Nat) (hi : cAt L i = some ⟨b, ty, rows g ls ++ tl⟩)
    (hg : ∀ x, (g x).length = n) (hj : ls[j]? = some x) (ho : o = j * n) (k : K (.agg (g x).toArray)) : YQ P w0 I L (.load t (.pointer (some ⟨b, o, none⟩))) K := by
  subst ho
  exact YQ.loadA TO hs i hi (rows_block hg hj) (hg x) k
theorem YQ.loadRows (TO : TabOk P T) {t b m : Nat} {ls : List α} {tl : List Value} {ty : Nat} {K : Value → Prop} (hs : natAt T.ag t = some m) (i : Nat) (hi : cAt L i = some ⟨b, ty, rows g ls ++ tl⟩)
    (hg : ∀ x, (g x).length = n) (hm : ls.length * n = m) (k : K (.agg (rows g ls).toArray)) : YQ P w0 I L (.load t (.pointer (some ⟨b, 0, none⟩))) K := by
  have hl : (rows g ls).length = m := by rw [rows_length hg, hm]
  refine YQ.loadA TO hs i hi (vs := rows g ls) ?_ hl k
  rw [List.drop_zero, ← hl, List.take_left]
theorem YU.storeRow (TO : TabOk P T) {t b o : Nat} {ls : List α} {tl : List Value} {vs : List Value} {ty : Nat} {K : Hs → Prop} (hs : natAt T.ag t = some n) (i j : Nat) (hi : cAt L i = some ⟨b, ty, rows g ls ++ tl⟩)
    (hg : ∀ x, (g x).length = n) (hj : j < ls.length) (ho : o = j * n) (y : α) (hy : vs = g y) (h1 : (g y).all (·.oneCell') = true) (k : K (L.set i ⟨b, ty, rows g (ls.set j y) ++ tl⟩)) :
    YU P w0 I L t (.pointer (some ⟨b, o, none⟩)) (.agg vs.toArray) K := by
  subst ho
  subst hy
  have hl : (rows g ls).length = ls.length * n := rows_length hg ls
  have : j * n + n ≤ ls.length * n := by rw [← Nat.succ_mul]; exact Nat.mul_le_mul_right n hj
  exact YU.storeA TO hs (hg y) h1 i hi (by rw [List.length_append, hl]; omega) (by rw [rows_set hg y hj]; exact k)
theorem YU.storeF (TO : TabOk P T) {t b : Nat} {vs : List Value} {ty : Nat} {cs : List Value} {n : Nat} {K : Hs → Prop} (hs : natAt T.ag t = some n) (hl : vs.length = n) (h1 : vs.all (·.oneCell') = true)
    (i : Nat) (hi : cAt L i = some ⟨b, ty, cs⟩) (hc : cs.length = n) (k : K (L.set i ⟨b, ty, vs⟩)) : YU P w0 I L t (.pointer (some ⟨b, 0, none⟩)) (.agg vs.toArray) K := by
  refine YU.storeA TO hs hl h1 i hi (by omega) ?_
  rw [List.take_zero, List.drop_eq_nil_of_le (by omega), List.append_nil, List.nil_append]
  exact k
theorem YQ.loadF (TO : TabOk P T) {t b : Nat} {ty : Nat} {cs : List Value} {n : Nat} {K : Value → Prop} (hs : natAt T.ag t = some n) (i : Nat) (hi : cAt L i = some ⟨b, ty, cs⟩) (hc : cs.length = n)
    (k : K (.agg cs.toArray)) : YQ P w0 I L (.load t (.pointer (some ⟨b, 0, none⟩))) K :=
  YQ.loadA TO hs i hi (by rw [List.drop_zero, ← hc, List.take_length]) hc k
/-- An element of an array of records, as a value. -/
theorem YQ.indexR (TO : TabOk P T) {t m : Nat} {ls : List α} {x : α} {kd : IntKind} {i : Int} {K : Value → Prop} (hs : natAt T.ar t = some (m, n)) (ha : aeOk P t = true) (hg : ∀ x, (g x).length = n) (j : Nat)
    (hj : ls[j]? = some x) (hi : i = j) (hm : j < m) (k : K (.agg (g x).toArray)) : YQ P w0 I L (.index t (.agg (rows g ls).toArray) (.int kd i)) K := by
  obtain ⟨e, hu, hz⟩ := ar_spec TO hs
  have hag : ∀ w, (isAgg e).run P w = .ok true w := by
    intro w
    unfold aeOk at ha
    rw [hu] at ha
    dsimp only at ha
    split at ha
    · rename_i h1; simp [isAgg, Sem.run_bind, run_underlying h1, Sem.run]
    · rename_i h1; simp [isAgg, Sem.run_bind, run_underlying h1, Sem.run]
    · simp at ha
  refine YQ.val _ (fun w => ?_) k
  subst hi
  have h1 : (0 : Int) ≤ j ∧ (j : Int) < m := by omega
  have hb := rows_block (tl := []) hg hj
  rw [List.append_nil] at hb
  simp only [Rq.sem, Instr.index, asIntOf, Sem.run_bind, Sem.run_pure, Result.andThen_ok, run_underlying hu, h1, and_self, if_true, hz, part, hag, Int.toNat_natCast]
  congr 2
  apply Array.ext'
  rw [Array.toList_extract]
  simp only [List.extract_eq_take_drop, Nat.add_sub_cancel_left]
  exact hb
end
end Vc
end Go.Proofs.Ytggbhokhibfdmaa
