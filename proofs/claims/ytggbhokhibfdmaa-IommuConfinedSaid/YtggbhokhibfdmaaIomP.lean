/- The controller's maps and the document's tables say the same; what acts do to them. Conditions: none. -/
import Derived.Test.YtggbhokhibfdmaaIomR2
set_option linter.unusedVariables false
set_option linter.unusedSimpArgs false
set_option linter.unusedSectionVars false
set_option maxRecDepth 10000
set_option maxHeartbeats 4000000
namespace Go.Proofs.Ytggbhokhibfdmaa
open Vc Mem
theorem mget_mdel {V : Type} : ∀ {l : List (Me V)}, (l.map (·.k)).Nodup → ∀ (k k' : Int), mget (mdel l k) k' = if k' = k then none else mget l k'
  | [], _, k, k' => by simp [mdel, mget]
  | a :: r, h, k, k' => by
    rw [List.map_cons, List.nodup_cons] at h
    unfold mdel
    by_cases ha : a.k = k
    · rw [if_pos ha]
      by_cases hk : k' = k
      · rw [if_pos hk]
        cases hg : mget r k' with
        | none => rfl
        | some v =>
          obtain ⟨x, hx, h1, h2⟩ := mget_some hg
          exact absurd (List.mem_map.2 ⟨x, hx, by rw [h1, hk, ha]⟩) h.1
      · rw [if_neg hk]
        conv => rhs; unfold mget
        rw [if_neg (fun e => hk (by rw [← e, ha]))]
    · rw [if_neg ha]
      unfold mget
      rw [mget_mdel h.2]
      by_cases hk : k' = k
      · rw [if_pos hk, if_neg (fun e => ha (by rw [e, hk])), if_pos hk]
      · rw [if_neg hk, if_neg hk]
theorem mget_fgL {V : Type} (pr : V → Bool) : ∀ {l : List (Me V)}, (l.map (·.k)).Nodup → ∀ (k : Int), mget (fgL pr l) k = match mget l k with | some v => if pr v = true then none else some v | none => none
  | [], _, k => by simp [fgL, mget]
  | a :: r, h, k => by
    rw [List.map_cons, List.nodup_cons] at h
    have ih := mget_fgL pr h.2 k
    by_cases ha : a.k = k
    · have hn : mget (fgL pr r) k = none := by
        rw [ih]
        cases hg : mget r k with
        | none => rfl
        | some v =>
          obtain ⟨x, hx, h1, h2⟩ := mget_some hg
          exact absurd (List.mem_map.2 ⟨x, hx, by rw [h1, ha]⟩) h.1
      have h2 : mget (a :: r) k = some a.v := by unfold mget; rw [if_pos ha]
      rw [h2]
      by_cases hp : pr a.v = true
      · have h3 : fgL pr (a :: r) = fgL pr r := by unfold fgL; rw [List.filter_cons_of_neg (by simp [hp])]
        rw [h3, hn]
        simp [hp]
      · have h3 : fgL pr (a :: r) = a :: fgL pr r := by unfold fgL; rw [List.filter_cons_of_pos (by simp [hp])]
        rw [h3]
        unfold mget
        rw [if_pos ha]
        simp [hp]
    · have h2 : mget (a :: r) k = mget r k := by conv => lhs; unfold mget; rw [if_neg ha]
      rw [h2, ← ih]
      by_cases hp : pr a.v = true
      · have h3 : fgL pr (a :: r) = fgL pr r := by unfold fgL; rw [List.filter_cons_of_neg (by simp [hp])]
        rw [h3]
      · have h3 : fgL pr (a :: r) = a :: fgL pr r := by unfold fgL; rw [List.filter_cons_of_pos (by simp [hp])]
        rw [h3]
        conv => lhs; unfold mget
        rw [if_neg ha]
/-! the document's tables, from the maps -/
def RoL (R : List (Me Int)) : List Int := (List.range 16).map (fun k : Nat => rtO (mget R k))
def BoL (B : List (Me Fd)) : List Fo := (List.range 8).map (fun k : Nat => foO (mget B k))
theorem RoL_len (R : List (Me Int)) : (RoL R).length = 16 := by simp [RoL]
theorem BoL_len (B : List (Me Fd)) : (BoL B).length = 8 := by simp [BoL]
theorem RoL_get (R : List (Me Int)) (i : Nat) : (RoL R)[i]? = if i < 16 then some (rtO (mget R i)) else none := by
  unfold RoL
  rw [List.getElem?_map]
  by_cases hi : i < 16
  · rw [if_pos hi, List.getElem?_range hi]; rfl
  · rw [if_neg hi, List.getElem?_eq_none (by simp; omega)]; rfl
theorem BoL_get (B : List (Me Fd)) (i : Nat) : (BoL B)[i]? = if i < 8 then some (foO (mget B i)) else none := by
  unfold BoL
  rw [List.getElem?_map]
  by_cases hi : i < 8
  · rw [if_pos hi, List.getElem?_range hi]; rfl
  · rw [if_neg hi, List.getElem?_eq_none (by simp; omega)]; rfl
theorem RoL_at (R : List (Me Int)) {k : Int} (h : isS k) : (RoL R)[k.toNat]? = some (rtO (mget R k)) := by
  rw [RoL_get, if_pos (by omega)]
  congr 3
  omega
theorem BoL_at (B : List (Me Fd)) {k : Int} (h : 0 ≤ k ∧ k ≤ 7) : (BoL B)[k.toNat]? = some (foO (mget B k)) := by
  rw [BoL_get, if_pos (by omega)]
  congr 3
  omega
theorem RoL_upd {R R' : List (Me Int)} {k0 : Int} (h0 : isS k0) (v : Option Int) (h : ∀ k, mget R' k = if k = k0 then v else mget R k) : RoL R' = (RoL R).set k0.toNat (rtO v) := by
  apply List.ext_getElem?
  intro i
  rw [List.getElem?_set, RoL_get, RoL_get, RoL_len, h]
  by_cases hi : i < 16
  · rw [if_pos hi]
    by_cases hk : k0.toNat = i
    · rw [if_pos hk, if_pos (by omega), if_pos (by omega)]
    · rw [if_neg hk, if_neg (by omega), if_pos hi]
  · rw [if_neg hi, if_neg (by omega), if_neg hi]
theorem BoL_upd {B B' : List (Me Fd)} {k0 : Int} (h0 : 0 ≤ k0 ∧ k0 ≤ 7) (v : Option Fd) (h : ∀ k, mget B' k = if k = k0 then v else mget B k) : BoL B' = (BoL B).set k0.toNat (foO v) := by
  apply List.ext_getElem?
  intro i
  rw [List.getElem?_set, BoL_get, BoL_get, BoL_len, h]
  by_cases hi : i < 8
  · rw [if_pos hi]
    by_cases hk : k0.toNat = i
    · rw [if_pos hk, if_pos (by omega), if_pos (by omega)]
    · rw [if_neg hk, if_neg (by omega), if_pos hi]
  · rw [if_neg hi, if_neg (by omega), if_neg hi]
theorem RoL_set (R : List (Me Int)) {k : Int} (h : isS k) (v : Int) (c : Nat) : RoL (mset R k v c) = (RoL R).set k.toNat (v + 1) := RoL_upd h (some v) (fun k' => mget_mset R k v c k')
theorem RoL_del {R : List (Me Int)} (hn : (R.map (·.k)).Nodup) {k : Int} (h : isS k) : RoL (mdel R k) = (RoL R).set k.toNat 0 := RoL_upd h none (fun k' => mget_mdel hn k k')
theorem BoL_set (B : List (Me Fd)) {k : Int} (h : 0 ≤ k ∧ k ≤ 7) (v : Fd) (c : Nat) : BoL (mset B k v c) = (BoL B).set k.toNat ⟨true, v⟩ := BoL_upd h (some v) (fun k' => mget_mset B k v c k')
theorem BoL_del {B : List (Me Fd)} (hn : (B.map (·.k)).Nodup) {k : Int} (h : 0 ≤ k ∧ k ≤ 7) : BoL (mdel B k) = (BoL B).set k.toNat fo0 := BoL_upd h none (fun k' => mget_mdel hn k k')
theorem BoL_clr {B : List (Me Fd)} (hn : (B.map (·.k)).Nodup) {pr : Fd → Bool} {c : Fo → Bool} (hc : ∀ f, c ⟨true, f⟩ = pr f) : BoL (fgL pr B) = clr c (BoL B) := by
  apply List.ext_getElem?
  intro i
  unfold clr
  rw [List.getElem?_map, BoL_get, BoL_get]
  by_cases hi : i < 8
  · rw [if_pos hi, if_pos hi, mget_fgL pr hn]
    cases hg : mget B (i : Int) with
    | none =>
      show some fo0 = some (if c fo0 = true then fo0 else fo0)
      split <;> rfl
    | some f =>
      show some (foO (if pr f = true then none else some f)) = some (if c ⟨true, f⟩ = true then fo0 else ⟨true, f⟩)
      rw [hc]
      split <;> rfl
  · rw [if_neg hi, if_neg hi]
    rfl
theorem cnt_set (c : Fo → Bool) : ∀ (l : List Fo) (i : Nat) (y : Fo), l[i]? = some fo0 → c fo0 = false → cnt c (l.set i y) = cnt c l + (if c y = true then 1 else 0)
  | [], i, y, h, _ => by simp at h
  | a :: r, 0, y, h, h0 => by
    simp at h
    subst h
    simp only [cnt, List.set_cons_zero, List.countP_cons, h0]
    simp
  | a :: r, i + 1, y, h, h0 => by
    have ih := cnt_set c r i y (by simpa using h) h0
    simp only [cnt, List.set_cons_succ, List.countP_cons] at ih ⊢
    omega
theorem BoL_cnt {pr : Fd → Bool} {c : Fo → Bool} (hc : ∀ f, c ⟨true, f⟩ = pr f) (h0 : c fo0 = false) : ∀ {B : List (Me Fd)}, (B.map (·.k)).Nodup → (∀ x, x ∈ B → 0 ≤ x.k ∧ x.k ≤ 7) → cnt c (BoL B) = fgN pr B
  | [], _, _ => by
    show cnt c (BoL []) = 0
    unfold cnt
    rw [List.countP_eq_zero]
    intro f hf
    obtain ⟨k, -, rfl⟩ := List.mem_map.1 hf
    show ¬ c fo0 = true
    rw [h0]
    simp
  | a :: r, hn, hk => by
    rw [List.map_cons, List.nodup_cons] at hn
    have ha := hk a List.mem_cons_self
    have ih := BoL_cnt hc h0 hn.2 (fun x hx => hk x (List.mem_cons_of_mem _ hx))
    have hnone : mget r a.k = none := by
      cases hg : mget r a.k with
      | none => rfl
      | some v =>
        obtain ⟨x, hx, h1, h2⟩ := mget_some hg
        exact absurd (List.mem_map.2 ⟨x, hx, h1⟩) hn.1
    have e : BoL (a :: r) = (BoL r).set a.k.toNat ⟨true, a.v⟩ := BoL_upd ha (some a.v) (fun k => by
      by_cases hk : k = a.k
      · subst hk; unfold mget; simp
      · conv => lhs; unfold mget
        rw [if_neg (fun e => hk e.symm), if_neg hk])
    rw [e, cnt_set c _ _ _ (by rw [BoL_at r ha, hnone]; rfl) h0, ih, hc]
    unfold fgN
    by_cases hp : pr a.v = true
    · rw [List.filter_cons_of_pos (p := fun x : Me Fd => pr x.v) hp, if_pos hp]; rfl
    · rw [List.filter_cons_of_neg (p := fun x : Me Fd => pr x.v) hp, if_neg hp]; rfl
theorem B_small {B : List (Me Fd)} (hn : (B.map (·.k)).Nodup) (hk : ∀ x, x ∈ B → 0 ≤ x.k ∧ x.k ≤ 7) : B.length ≤ 8 := by
  have h1 := BoL_cnt (pr := fun _ => true) (c := fun f => f.on) (fun f => rfl) rfl hn hk
  have h2 : fgN (fun _ => true) B = B.length := by unfold fgN; rw [List.filter_eq_self.2 (by simp)]
  have h3 := cnt_le (fun f => f.on) (BoL B)
  rw [BoL_len] at h3
  omega
theorem RoL_range {R : List (Me Int)} (h : ∀ x, x ∈ R → isS x.k ∧ 0 ≤ x.v ∧ x.v ≤ 1023) : ∀ x, x ∈ RoL R → 0 ≤ x ∧ x ≤ 1024 := by
  intro x hx
  obtain ⟨k, -, rfl⟩ := List.mem_map.1 hx
  cases hg : mget R (k : Int) with
  | none => show 0 ≤ (0 : Int) ∧ (0 : Int) ≤ 1024; omega
  | some v =>
    obtain ⟨y, hy, h1, h2⟩ := mget_some hg
    have := h y hy
    show 0 ≤ v + 1 ∧ v + 1 ≤ 1024
    omega
/-! what both stand at -/
structure Js where
  R : List (Me Int)
  rk : Nat
  B : List (Me Fd)
  bk : Nat
  lost : Int
  X : List Int
  L : List Rd4
structure JI (s : Js) : Prop where
  kR : Kn s.R s.rk
  kB : Kn s.B s.bk
  rR : ∀ x, x ∈ s.R → isS x.k ∧ 0 ≤ x.v ∧ x.v ≤ 1023
  rB : ∀ x, x ∈ s.B → 0 ≤ x.k ∧ x.k ≤ 7
  fB : ∀ x, x ∈ s.B → 0 ≤ x.v.f
  len : s.X.length = 16 * 64
  by_ : By s.X
  l8 : s.L.length ≤ 8
abbrev dmaG (s : Js) (st ad : Int) (wr : Bool) : Fr := fnd (mget s.B (ad / 64 % 8)) (mget s.R st) 16 s.X st (ad / 64) (wn wr)
def dmaJ (s : Js) (st ad : Int) (wr : Bool) (b : Int) : Js :=
  if isS st ∧ 0 ≤ ad ∧ ad ≤ 65535 then
    if (dmaG s st ad wr).k = 0 then { s with B := newB (dmaG s st ad wr).new (ad / 64 % 8) s.B s.bk, bk := newC (dmaG s st ad wr).new (ad / 64 % 8) s.B s.bk, X := if wr = true then s.X.set ((dmaG s st ad wr).a * 64 + ad % 64).toNat b else s.X }
    else { s with B := newB (dmaG s st ad wr).new (ad / 64 % 8) s.B s.bk, bk := newC (dmaG s st ad wr).new (ad / 64 % 8) s.B s.bk, L := recL ⟨st, ad / 64, (dmaG s st ad wr).k, wr⟩ s.L, lost := recN s.L s.lost }
  else s
def dmaE (s : Js) (st ad : Int) (wr : Bool) : Int := if isS st then if 0 ≤ ad ∧ ad ≤ 65535 then if (dmaG s st ad wr).k = 0 then 0 else 101 else 1 else 100
def dmaV (s : Js) (st ad : Int) (wr : Bool) (b : Int) : Int :=
  if isS st ∧ 0 ≤ ad ∧ ad ≤ 65535 then if (dmaG s st ad wr).k = 0 then if wr = true then b else gt s.X ((dmaG s st ad wr).a * 64 + ad % 64).toNat else 0 else 0
/-- An act. -/
structure Ac where
  d : Int
  st : Int
  n : Int
  w : Bool
  b : Int
  t : Int
  i : Int
  x : Et
  hb : 0 ≤ b ∧ b ≤ 255
def actJ (s : Js) (a : Ac) : Js :=
  if a.d = 1 then { s with R := attR a.st a.n s.R s.rk, rk := attC a.st a.n s.R s.rk, B := attB a.st a.n s.B }
  else if a.d = 2 then { s with R := detR a.st s.R, B := detB a.st s.B }
  else if a.d = 3 then dmaJ s a.st a.n a.w a.b
  else if a.d = 4 then { s with B := fgL (prS a.st) s.B }
  else if a.d = 5 then { s with B := fgL (prP a.st a.n) s.B }
  else if a.d = 6 then { s with B := eviB a.n s.B }
  else if a.d = 7 then { s with L := s.L.tail }
  else if a.d = 8 then { s with X := putL 16 s.X a.t a.i a.x }
  else s
/-! what is found stays in memory -/
theorem dcX_f (m : Int) (hm : 0 ≤ m) : 0 ≤ (dcX m).f := by
  show 0 ≤ dcF m
  unfold dcF
  split <;> omega
theorem getX_f (n : Nat) {xs : List Int} (hx : By xs) (t i : Int) : 0 ≤ (getX n xs t i).f := by
  unfold getX
  split
  · exact dcX_f _ (ldV_in hx _ _).1
  · decide
theorem stpX_f (n : Nat) {xs : List Int} (hx : By xs) (t pg lv : Int) : 0 ≤ (stpX n xs t pg lv).f := by
  unfold stpX
  split
  · exact getX_f _ hx _ _
  · decide
theorem sgl_a (n : Nat) {xs : List Int} (hx : By xs) (root pg : Int) : 0 ≤ (sgl n xs root pg).a := by
  unfold sgl
  split
  · decide
  · split
    · show (0 : Int) ≤ 0; omega
    · split
      · show (0 : Int) ≤ 0; omega
      · exact stpX_f _ hx _ _ _
theorem fnd_in {s : Js} (h : JI s) (st ad : Int) (wr : Bool) (had : 0 ≤ ad ∧ ad ≤ 65535) (hk : (dmaG s st ad wr).k = 0) : 0 ≤ (dmaG s st ad wr).a ∧ (dmaG s st ad wr).a < 16 := by
  have hout : ∀ (f : Fd) (o : Option Fd), 0 ≤ f.f → (outF 16 f o).k = 0 → 0 ≤ (outF 16 f o).a ∧ (outF 16 f o).a < 16 := by
    intro f o h0 h1
    unfold outF at h1 ⊢
    split
    · rename_i h2; rw [if_pos h2] at h1; exact absurd h1 (show ¬ ((3 : Int) = 0) by decide)
    · rename_i h2; exact ⟨h0, by show f.f < 16; omega⟩
  have h2 : ∀ ro, (fnd2 ro 16 s.X st (ad / 64) (wn wr)).k = 0 → 0 ≤ (fnd2 ro 16 s.X st (ad / 64) (wn wr)).a ∧ (fnd2 ro 16 s.X st (ad / 64) (wn wr)).a < 16 := by
    intro ro
    cases ro with
    | none => intro h1; exact absurd h1 (show ¬ ((1 : Int) = 0) by decide)
    | some root =>
      rw [fnd2_s]
      split
      · rename_i h3; intro h1; exact absurd h1 h3
      · split
        · intro h1; exact absurd h1 (show ¬ ((2 : Int) = 0) by decide)
        · exact hout _ _ (sgl_a _ h.by_ _ _)
  unfold dmaG at hk ⊢
  cases hg : mget s.B (ad / 64 % 8) with
  | none => rw [hg] at hk; exact h2 _ hk
  | some f =>
    rw [hg] at hk
    rw [fnd_s] at hk ⊢
    obtain ⟨x, hx, h3, h4⟩ := mget_some hg
    have h5 := h.fB x hx
    rw [h4] at h5
    split
    · rename_i h6; rw [if_pos h6] at hk; exact hout _ _ h5 hk
    · rename_i h6; rw [if_neg h6] at hk; exact h2 _ hk
theorem fnd_new {s : Js} (h : JI s) (st ad : Int) (wr : Bool) {f : Fd} (hn : (dmaG s st ad wr).new = some f) : 0 ≤ f.f := by
  have hout : ∀ (f' : Fd) (o : Option Fd), (outF 16 f' o).new = o := by intro f' o; unfold outF; split <;> rfl
  have h2 : ∀ ro, (fnd2 ro 16 s.X st (ad / 64) (wn wr)).new = some f → 0 ≤ f.f := by
    intro ro
    cases ro with
    | none => intro h1; simp [fnd2_n] at h1
    | some root =>
      rw [fnd2_s]
      split
      · intro h1; simp at h1
      · split
        · intro h1; simp at h1
        · rw [hout]
          intro h1
          simp only [Option.some.injEq] at h1
          rw [← h1]
          exact (sgl_a _ h.by_ _ _)
  unfold dmaG at hn
  cases hg : mget s.B (ad / 64 % 8) with
  | none => rw [hg] at hn; exact h2 _ hn
  | some f' =>
    rw [hg, fnd_s] at hn
    split at hn
    · rw [hout] at hn; simp at hn
    · exact h2 _ hn
theorem recL_len {x : Rd4} {l : List Rd4} (h : l.length ≤ 8) : (recL x l).length ≤ 8 := by
  unfold recL
  split
  · simp; omega
  · exact h
theorem set_in {V : Type} {Q : Me V → Prop} {l : List (Me V)} {k : Int} {v : V} {c : Nat} (h : ∀ x, x ∈ l → Q x) (hq : ∀ n, Q ⟨k, v, n⟩) : ∀ x, x ∈ mset l k v c → Q x := by
  intro x hx
  rcases mset_keys l k v c x hx with ⟨h1, h2⟩ | h1
  · have : x = ⟨k, v, x.n⟩ := by cases x; simp_all
    rw [this]
    exact hq _
  · exact h x h1
theorem JI.dma {s : Js} (h : JI s) (st ad : Int) (wr : Bool) {b : Int} (hb : 0 ≤ b ∧ b ≤ 255) : JI (dmaJ s st ad wr b) := by
  have key : JI { s with B := newB (dmaG s st ad wr).new (ad / 64 % 8) s.B s.bk, bk := newC (dmaG s st ad wr).new (ad / 64 % 8) s.B s.bk } := by
    cases hn : (dmaG s st ad wr).new with
    | none => exact h
    | some f =>
      have hf := fnd_new h st ad wr hn
      exact { h with kB := h.kB.set _ _, rB := set_in h.rB (fun n => by show 0 ≤ ad / 64 % 8 ∧ ad / 64 % 8 ≤ 7; omega), fB := set_in h.fB (fun n => hf) }
  unfold dmaJ
  split
  · split
    · cases wr
      · exact key
      · exact { key with len := by show (List.set _ _ _).length = _; rw [List.length_set]; exact h.len, by_ := h.by_.set _ _ hb }
    · exact { key with l8 := recL_len h.l8 }
  · exact h
theorem fgL_in {V : Type} {Q : Me V → Prop} {l : List (Me V)} {pr : V → Bool} (h : ∀ x, x ∈ l → Q x) : ∀ x, x ∈ fgL pr l → Q x := fun x hx => h x (List.mem_filter.1 hx).1
theorem mdel_in {V : Type} {Q : Me V → Prop} {l : List (Me V)} {k : Int} (hn : (l.map (·.k)).Nodup) (h : ∀ x, x ∈ l → Q x) : ∀ x, x ∈ mdel l k → Q x := by
  rw [mdel_filter hn]
  exact fun x hx => h x (List.mem_filter.1 hx).1
theorem JI.act {s : Js} (h : JI s) (a : Ac) : JI (actJ s a) := by
  unfold actJ
  split
  · unfold attR attC attB
    by_cases hc : isS a.st ∧ 0 ≤ a.n ∧ a.n ≤ 1023
    · simp only [if_pos hc]
      exact { h with kR := h.kR.set _ _, rR := set_in h.rR (fun n => hc), kB := h.kB.filter _, rB := fgL_in h.rB, fB := fgL_in h.fB }
    · simp only [if_neg hc]
      exact h
  · split
    · unfold detR detB
      by_cases hc : isS a.st
      · simp only [if_pos hc]
        exact { h with kR := h.kR.del _, rR := mdel_in h.kR.1 h.rR, kB := h.kB.filter _, rB := fgL_in h.rB, fB := fgL_in h.fB }
      · simp only [if_neg hc]
        exact h
    · split
      · exact h.dma _ _ _ a.hb
      · split
        · exact { h with kB := h.kB.filter _, rB := fgL_in h.rB, fB := fgL_in h.fB }
        · split
          · exact { h with kB := h.kB.filter _, rB := fgL_in h.rB, fB := fgL_in h.fB }
          · split
            · unfold eviB
              by_cases hc : 0 ≤ a.n ∧ a.n ≤ 7
              · simp only [if_pos hc]
                exact { h with kB := h.kB.del _, rB := mdel_in h.kB.1 h.rB, fB := mdel_in h.kB.1 h.fB }
              · simp only [if_neg hc]
                exact h
            · split
              · exact { h with l8 := by have := h.l8; show s.L.tail.length ≤ 8; rw [List.length_tail]; omega }
              · split
                · exact { h with len := putL_length h.len _ _ _, by_ := By.put h.by_ _ _ _ }
                · exact h
end Go.Proofs.Ytggbhokhibfdmaa
