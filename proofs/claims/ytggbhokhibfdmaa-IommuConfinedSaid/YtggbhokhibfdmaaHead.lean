/- What the rows ask of the program's head: how it was cut. Conditions: none. -/
import Derived.Test.YtggbhokhibfdmaaRows
import Derived.KernelRfl
set_option linter.unusedVariables false
set_option linter.unusedSimpArgs false
namespace Go.Proofs.Ytggbhokhibfdmaa
theorem toL {s : String} {l : List Char} (h : s = String.ofList l) : s.toList = l := by rw [h, String.toList_ofList]
def noSp (w : List Char) : Bool := w.all fun c => !(Nat.beq c.toNat 32)
theorem ws_cons : ∀ (w r : List Char), noSp w = true → wordsSigns (w ++ Char.ofNat 32 :: r) = w :: wordsSigns r
  | [], r, _ => by
    show wordsSigns (Char.ofNat 32 :: r) = _
    rfl
  | c :: w, r, h => by
    simp only [noSp, List.all_cons, Bool.and_eq_true, Bool.not_eq_true'] at h
    have ih := ws_cons w r h.2
    have hc : c ≠ Char.ofNat 32 := by
      rintro rfl
      exact absurd h.1 (by decide)
    have : wordsSigns (c :: (w ++ Char.ofNat 32 :: r)) = match wordsSigns (w ++ Char.ofNat 32 :: r) with
        | w :: ws => (c :: w) :: ws
        | [] => [[c]] := by
      rw [wordsSigns]
      · rfl
      · exact hc
    rw [List.cons_append, this, ih]
/-- The first words of a long text. -/
theorem ws_three {s : String} {l : List Char} (a b c : Nat) (h : s = String.ofList l) (hl : l = l.take a ++ Char.ofNat 32 :: ((l.drop (a + 1)).take b ++ Char.ofNat 32 :: ((l.drop (a + 1 + b + 1)).take c ++ Char.ofNat 32 :: l.drop (a + 1 + b + 1 + c + 1))))
    (h1 : noSp (l.take a) = true) (h2 : noSp ((l.drop (a + 1)).take b) = true) (h3 : noSp ((l.drop (a + 1 + b + 1)).take c) = true) :
    wordsSigns s.toList = l.take a :: (l.drop (a + 1)).take b :: (l.drop (a + 1 + b + 1)).take c :: wordsSigns (l.drop (a + 1 + b + 1 + c + 1)) := by
  rw [toL h]
  conv => lhs; rw [hl]
  rw [ws_cons _ _ h1, ws_cons _ _ h2, ws_cons _ _ h3]
set_option maxRecDepth 1000000
theorem words : ∃ l : List Char, wordsSigns Try.prog.initOrder.toList = l.take 7 :: (l.drop 8).take 64 :: (l.drop 73).take 3 :: wordsSigns (l.drop 77) ∧ (l.take 7 == "harness".toList) = true ∧ isSumSigns ((l.drop 8).take 64) = true ∧ (l.drop 73).take 3 = "cut".toList :=
  ⟨_, ws_three 7 64 3 rfl (by kernel_rfl) (by kernel_rfl) (by kernel_rfl) (by kernel_rfl), by kernel_rfl, by kernel_rfl, by kernel_rfl⟩
theorem behind : ∃ r, behindMainWord (wordsSigns Try.prog.initOrder.toList) = "cut".toList :: r := by
  obtain ⟨l, h1, h2, h3, h4⟩ := words
  refine ⟨wordsSigns (l.drop 77), ?_⟩
  rw [h1, behindMainWord, h2, h3, h4]
  rfl
theorem make_of {P : Program} {r : List (List Char)} (h : behindMainWord (wordsSigns P.initOrder.toList) = "cut".toList :: r) : P.make = some .cut := by
  unfold Program.make
  rw [h]
  rfl
theorem lifts_of {P : Program} {r : List (List Char)} (h : behindMainWord (wordsSigns P.initOrder.toList) = "cut".toList :: r) : P.liftsFinal = false := by
  unfold Program.liftsFinal Program.headLifts
  rw [h]
  rfl
theorem mayEnter_of {P : Program} {r : List (List Char)} (h : behindMainWord (wordsSigns P.initOrder.toList) = "cut".toList :: r) (h1 : P.laysLater = false) (h2 : P.bearsReflect = false) (h3 : P.doorRows = []) : P.mayEnter = true := by
  unfold Program.mayEnter Program.doorFits
  rw [h, h1, h2, h3]
  rfl
theorem enters : Try.prog.mayEnter = true := by
  obtain ⟨r, hr⟩ := behind
  exact mayEnter_of hr (by as_aux_lemma => kernel_rfl) (by as_aux_lemma => kernel_rfl) (by as_aux_lemma => kernel_rfl)
theorem lifts0 : Try.prog.liftsFinal = false := by
  obtain ⟨r, hr⟩ := behind
  exact lifts_of hr
theorem made : Try.prog.make = some .cut := by
  obtain ⟨r, hr⟩ := behind
  exact make_of hr
end Go.Proofs.Ytggbhokhibfdmaa
