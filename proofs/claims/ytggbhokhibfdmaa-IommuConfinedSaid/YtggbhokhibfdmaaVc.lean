/- A generator of verification conditions over the kit's wp: a function's code is run over slots kept as a list and over blocks that are owned; what it asks of memory, arithmetic and calls is left as goals. Conditions: none. -/
import Derived.WalkKit
import Derived.StillTail
import Derived.Scope
import Derived.KernelRfl
import Derived.Laws.CopyRow
set_option linter.unusedVariables false
set_option linter.unusedSimpArgs false
set_option linter.unusedSectionVars false
namespace Go.Proofs.Ytggbhokhibfdmaa
namespace Vc

/-! ### 1. Owned blocks -/
structure Ent where
  b : Nat
  t : TypeId
  cs : List Value

abbrev Hs := List Ent

/-- Entries of a type from here on stand for maps and for what goes through them. -/
def mapT : Nat := 1000000000
def itT : Nat := 1000000001
def isC (t : Nat) : Bool := Nat.blt t 1000000000
def mEnt : Value → MapEntry
  | .tuple vs => match vs.toList with
    | [k, v, .int _ n] => ⟨k, v, n.toNat⟩
    | _ => default
  | _ => default
def Ent.obj (e : Ent) : Obj := match isC e.t with
  | true => .cells e.cs.toArray e.t (0, 0)
  | false => match Nat.beq e.t mapT, e.cs with
    | true, .int _ c :: r => .map (r.map mEnt).toArray c.toNat
    | false, .int _ m :: .int _ s :: .int _ q :: r => .mapIter (some m.toNat) s.toNat (r.map (fun v => match v with | .int _ n => n.toNat | _ => 0)).toArray q.toNat
    | _, _ => .map #[] 0
theorem Ent.obj_c {e : Ent} (h : isC e.t = true) : e.obj = .cells e.cs.toArray e.t (0, 0) := by unfold Ent.obj; rw [h]
/-- The block at a place, if it is one of cells. -/
def cAt (L : Hs) (i : Nat) : Option Ent := match L[i]? with
  | some e => match isC e.t with | true => some e | false => none
  | none => none
theorem cAt_spec {L : Hs} {i : Nat} {e : Ent} (h : cAt L i = some e) : L[i]? = some e ∧ isC e.t = true := by
  unfold cAt at h
  cases hL : L[i]? with
  | none => rw [hL] at h; cases h
  | some x =>
    rw [hL] at h
    dsimp only at h
    cases hx : isC x.t with
    | true => rw [hx] at h; cases h; exact ⟨rfl, hx⟩
    | false => rw [hx] at h; cases h

structure Hp (w0 : World) (I : List Nat) (w : World) (L : Hs) : Prop where
  size : w0.heap.size ≤ w.heap.size
  os : w.os = w0.os
  tape : w.tape = w0.tape
  output : w.output = w0.output
  nodup : (L.map Ent.b).Nodup
  cells : ∀ e, e ∈ L → w.heap[e.b]? = some e.obj
  own : ∀ e, e ∈ L → e.b ∈ I ∨ w0.heap.size ≤ e.b
  rest : ∀ b, b < w0.heap.size → b ∉ I → w.heap[b]? = w0.heap[b]?

theorem Hp.lt {w0 w : World} {I : List Nat} {L : Hs} (h : Hp w0 I w L) {e : Ent} (he : e ∈ L) : e.b < w.heap.size :=
  (Array.getElem?_eq_some_iff.1 (h.cells e he)).1

theorem Hp.drawn {w0 w : World} {I : List Nat} {L : Hs} (h : Hp w0 I w L) (n : Nat) : Hp w0 I { w with drawn := n } L :=
  ⟨h.size, h.os, h.tape, h.output, h.nodup, h.cells, h.own, h.rest⟩

theorem Hp.cell {w0 w : World} {I : List Nat} {L : Hs} (h : Hp w0 I w L) {e : Ent} (he : e ∈ L) (ht : isC e.t = true) {o : Nat} {v : Value} (hv : e.cs[o]? = some v) :
    w.cell? ⟨e.b, o, none⟩ = some v := by
  simp [World.cell?, h.cells e he, Ent.obj_c ht, hv]

theorem Hp.free {w0 w : World} {I : List Nat} {L : Hs} (h : Hp w0 I w L) {e : Ent} (he : e ∈ L) (ht : isC e.t = true) (o : Nat) :
    w.frozen? ⟨e.b, o, none⟩ = false := by
  simp [World.frozen?, h.cells e he, Ent.obj_c ht]

/-- A new block. -/
theorem Hp.allocO {w0 w : World} {I : List Nat} {L : Hs} (h : Hp w0 I w L) (t : TypeId) (cs : List Value) (ob : Obj) (hob : (⟨w.heap.size, t, cs⟩ : Ent).obj = ob) :
    Hp w0 I (w.alloc ob) (L ++ [⟨w.heap.size, t, cs⟩]) where
  size := by have := h.size; simp; omega
  os := h.os
  tape := h.tape
  output := h.output
  nodup := by
    rw [List.map_append, List.nodup_append]
    refine ⟨h.nodup, by simp, ?_⟩
    intro x hx y hy
    obtain ⟨e, he, rfl⟩ := List.mem_map.1 hx
    simp at hy
    have := h.lt he
    omega
  cells := by
    intro e he
    rcases List.mem_append.1 he with he | he
    · have hlt := h.lt he
      rw [RowKit.Below.heap_alloc _ _ _ hlt]
      exact h.cells e he
    · simp at he
      subst he
      rw [hob]
      show (w.heap.push _)[w.heap.size]? = _
      simp
  own := by
    intro e he
    rcases List.mem_append.1 he with he | he
    · exact h.own e he
    · simp at he; subst he; exact .inr h.size
  rest := by
    intro b hb hI
    rw [RowKit.Below.heap_alloc _ _ _ (by have := h.size; omega)]
    exact h.rest b hb hI

theorem Hp.alloc {w0 w : World} {I : List Nat} {L : Hs} (h : Hp w0 I w L) (t : TypeId) (cs : List Value) (ht : isC t = true) :
    Hp w0 I (w.alloc (.cells cs.toArray t)) (L ++ [⟨w.heap.size, t, cs⟩]) := h.allocO t cs _ (Ent.obj_c ht)

theorem mem_set_cases {L : Hs} {i : Nat} {e x : Ent} (h : x ∈ L.set i e) : x = e ∨ (x ∈ L ∧ ∃ j, j ≠ i ∧ L[j]? = some x) := by
  obtain ⟨j, hj⟩ := List.mem_iff_getElem?.1 h
  by_cases hji : i = j
  · subst hji
    rw [List.getElem?_set_self'] at hj
    cases hl : L[i]? with
    | none => simp [hl] at hj
    | some y => simp [hl] at hj; exact .inl hj.symm
  · rw [List.getElem?_set_ne hji] at hj
    exact .inr ⟨List.mem_iff_getElem?.2 ⟨j, hj⟩, j, Ne.symm hji, hj⟩

theorem map_set_same {L : Hs} {i : Nat} {e e' : Ent} (hi : L[i]? = some e) (hb : e'.b = e.b) : (L.set i e').map Ent.b = L.map Ent.b := by
  apply List.ext_getElem?
  intro j
  rw [List.getElem?_map, List.getElem?_map]
  by_cases hji : i = j
  · subst hji
    rw [List.getElem?_set_self', hi]
    simp [hb]
  · rw [List.getElem?_set_ne hji]

theorem nodup_ne {L : Hs} (hn : (L.map Ent.b).Nodup) {i j : Nat} {x y : Ent} (hi : L[i]? = some x) (hj : L[j]? = some y) (hij : i ≠ j) : x.b ≠ y.b := by
  have hn' := List.pairwise_iff_getElem.1 hn
  obtain ⟨h1, rfl⟩ := List.getElem?_eq_some_iff.1 hi
  obtain ⟨h2, rfl⟩ := List.getElem?_eq_some_iff.1 hj
  rcases Nat.lt_or_gt_of_ne hij with h | h
  · have := hn' i j (by simpa using h1) (by simpa using h2) h
    simpa using this
  · have := hn' j i (by simpa using h2) (by simpa using h1) h
    simp at this
    exact fun he => this he.symm

theorem setRow_ne (w : World) (g : Nat) (cs : Array Value) (k : Nat) (h : k ≠ g) : (w.setRow g cs).heap[k]? = w.heap[k]? := by
  simp only [World.setRow, Array.getElem?_modify]
  rw [if_neg (by omega)]

/-- An owned object is laid anew. -/
theorem Hp.setO {w0 w w' : World} {I : List Nat} {L : Hs} (h : Hp w0 I w L) {i : Nat} {e : Ent} (hi : L[i]? = some e) (e' : Ent) (hb : e'.b = e.b) (hs : w'.heap.size = w.heap.size)
    (h1 : w'.os = w.os) (h2 : w'.tape = w.tape) (h3 : w'.output = w.output) (hn : w'.heap[e.b]? = some e'.obj) (ho : ∀ k, k ≠ e.b → w'.heap[k]? = w.heap[k]?) : Hp w0 I w' (L.set i e') := by
  have hmem : e ∈ L := List.mem_iff_getElem?.2 ⟨i, hi⟩
  refine ⟨?_, ?_, ?_, ?_, ?_, ?_, ?_, ?_⟩
  · rw [hs]; exact h.size
  · exact h1.trans h.os
  · exact h2.trans h.tape
  · exact h3.trans h.output
  · rw [map_set_same (e' := e') hi hb]; exact h.nodup
  · intro x hx
    rcases mem_set_cases hx with rfl | ⟨hx, j, hji, hj⟩
    · rw [hb]; exact hn
    · have hne := nodup_ne h.nodup hj hi hji
      rw [ho _ hne]
      exact h.cells x hx
  · intro x hx
    rcases mem_set_cases hx with rfl | ⟨hx, _⟩
    · rw [hb]; exact h.own e hmem
    · exact h.own x hx
  · intro b hb' hI
    rw [ho _ ?_]
    · exact h.rest b hb' hI
    · rintro rfl
      rcases h.own e hmem with h1 | h1
      · exact hI h1
      · omega
/-- An owned block is written. -/
theorem Hp.setRow {w0 w : World} {I : List Nat} {L : Hs} (h : Hp w0 I w L) {i : Nat} {e : Ent} (hi : L[i]? = some e) (ht : isC e.t = true) (cs' : List Value) :
    Hp w0 I (w.setRow e.b cs'.toArray) (L.set i ⟨e.b, e.t, cs'⟩) := by
  have hmem : e ∈ L := List.mem_iff_getElem?.2 ⟨i, hi⟩
  have hc := h.cells e hmem
  rw [Ent.obj_c ht] at hc
  refine h.setO hi ⟨e.b, e.t, cs'⟩ rfl (by simp [World.setRow]) rfl rfl rfl ?_ (fun k hk => setRow_ne w _ _ _ hk)
  rw [Ent.obj_c (e := ⟨e.b, e.t, cs'⟩) ht]
  exact setRow_heap w e.b e.cs.toArray cs'.toArray e.t (0, 0) hc

/-! ### 2. Slots -/
abbrev Env := List (Nat × Value)
def get : Env → Nat → Option Value
  | [], _ => none
  | (j, v) :: e, i => match Nat.beq i j with | true => some v | false => get e i

def ev (env : Env) : Operand → Option Value
  | .tmp t => get env t
  | .const v => some v
  | .global g => some (.pointer (some ⟨g, 0, none⟩))
  | .func f => some (.func (.func f) #[] #[])

def evs (env : Env) : List Operand → Option (List Value)
  | [] => some []
  | x :: r => match ev env x with
    | some v => match evs env r with | some l => some (v :: l) | none => none
    | none => none

structure ER (n : Nat) (env : Env) (a : Act) : Prop where
  defers : a.defers = []
  size : a.tmps.size = n
  get : ∀ i v, get env i = some v → a.tmps[i]? = some v

theorem ER.ev {n : Nat} {env : Env} {a : Act} (h : ER n env a) {x : Operand} {v : Value} (hv : ev env x = some v) : a.eval x = v := by
  cases x with
  | tmp t =>
    have := h.get t v hv
    simp [Act.eval, Array.getD_eq_getD_getElem?, this]
  | const v => exact Option.some.inj hv
  | global g => exact Option.some.inj hv
  | func f => exact Option.some.inj hv

theorem ER.evs {n : Nat} {env : Env} {a : Act} (h : ER n env a) : ∀ {xs : List Operand} {vs : List Value}, evs env xs = some vs → xs.map a.eval = vs
  | [], vs, hv => by simp [Vc.evs] at hv; simp [hv]
  | x :: r, vs, hv => by
    simp only [Vc.evs] at hv
    split at hv
    · rename_i v hx
      split at hv
      · rename_i l hr
        simp at hv
        simp [← hv, h.ev hx, h.evs hr]
      · simp at hv
    · simp at hv

theorem ER.put {n : Nat} {env : Env} {a : Act} (h : ER n env a) (d : Nat) (v : Value) (hd : d < n) : ER n ((d, v) :: env) (a.put (some d) v) where
  defers := h.defers
  size := by simp [Act.put, h.size]
  get := by
    intro i u hu
    simp only [Vc.get] at hu
    split at hu
    · rename_i hb
      have : i = d := by simpa using hb
      subst this
      simp at hu
      subst hu
      simp [Act.put, h.size, hd]
    · rename_i hb
      have hne : i ≠ d := by
        intro he
        subst he
        simp at hb
      simp only [Act.put]
      rw [Array.getElem?_setIfInBounds_ne (Ne.symm hne)]
      exact h.get i u hu

theorem ER.nil {n : Nat} {a : Act} (hd : a.defers = []) (hs : a.tmps.size = n) : ER n [] a := ⟨hd, hs, fun _ _ h => by simp [Vc.get] at h⟩

/-! ### 3. What is left to the prover -/
/-- What is asked of memory and arithmetic. -/
inductive Rq where
  | load (t : TypeId) (v : Value)
  | bin (op : BinOp) (t : TypeId) (x y : Operand) (a b : Value)
  | un (op : UnOp) (v : Value)
  | conv (s d : TypeId) (v : Value)
  | field (t : TypeId) (v : Value) (f : Nat)
  | index (t : TypeId) (v i : Value)
  | indexAddr (t : TypeId) (v i : Value)
  | slice (t : TypeId) (v : Value) (l h : Option Value)
  | build (t : TypeId) (ps : List (Nat × Value))
  | lookup (t : TypeId) (v i : Value) (ok : Bool)
  | len (t : TypeId) (v : Value)
  | lens (ts : Array TypeId) (vs : List Value)
  | cap (ts : Array TypeId) (vs : List Value)
  | min (ts : Array TypeId) (vs : List Value)
  | max (ts : Array TypeId) (vs : List Value)
  | entry (v : Value)
def Rq.sem : Rq → Sem Value
  | .load t v => Instr.loadAt t v
  | .bin op t x y a b => do eqGuard op t x y a b; binOp op t a b
  | .un op v => Op.unary op v
  | .conv s d v => convert s d v
  | .field t v f => Instr.field t v f
  | .index t v i => Instr.index t v i
  | .indexAddr t v i => Instr.indexAt t v i
  | .slice t v l h => Instr.sliceAt t v l h none
  | .build t ps => Instr.build t ps.toArray
  | .lookup t v i ok => Instr.lookup t v i ok
  | .len t v => Builtin.len_ #[t] 0 #[v]
  | .lens ts vs => Builtin.len_ ts 0 vs.toArray
  | .cap ts vs => Builtin.cap_ ts 0 vs.toArray
  | .min ts vs => Builtin.min_ ts 0 vs.toArray
  | .max ts vs => Builtin.max_ ts 0 vs.toArray
  | .entry v => Instr.entry v
/-- What is asked that turns memory. -/
inductive Wq where
  | bslice (t : TypeId) (len : Nat) (ps : List (Nat × Value))
  | mslice (t : TypeId) (l c : Value)
  | append (ts : Array TypeId) (vs : List Value)
  | copy (ts : Array TypeId) (vs : List Value)
  | clear (ts : Array TypeId) (vs : List Value)
  | mmap (t : TypeId)
  | mupd (t : TypeId) (m k v : Value)
  | range (t : TypeId) (v : Value)
  | next (v : Value) (b : Bool)
  | delete (ts : Array TypeId) (vs : List Value)
def Wq.sem : Wq → Sem Value
  | .bslice t len ps => Instr.buildSlice t len ps.toArray
  | .mslice t l c => Instr.makeSlice t l c
  | .append ts vs => Builtin.append_ ts 0 vs.toArray
  | .copy ts vs => Builtin.copy_ ts 0 vs.toArray
  | .clear ts vs => Builtin.clear_ ts 0 vs.toArray
  | .mmap t => Instr.makeMap t none
  | .mupd t m k v => do Instr.mapUpdate t m k v; pure undef
  | .range t v => Instr.range t v
  | .next v b => Instr.next v b 0
  | .delete ts vs => Builtin.delete_ ts 0 vs.toArray
section
variable (P : Program) (w0 : World) (I : List Nat) (L : Hs)
/-- A value that hangs on the owned blocks alone; nothing turns. -/
inductive YQ (r : Rq) (K : Value → Prop) : Prop
  | mk (v : Value) (h : ∀ w, Hp w0 I w L → r.sem.run P w = .ok v w) (k : K v)
/-- A value; blocks may turn. -/
inductive YW (r : Wq) (K : Value → Hs → Prop) : Prop
  | mk (h : ∀ w, Hp w0 I w L → ∃ v w' L', r.sem.run P w = .ok v w' ∧ Hp w0 I w' L' ∧ K v L')
inductive YU (t : TypeId) (p v : Value) (K : Hs → Prop) : Prop
  | mk (h : ∀ w, Hp w0 I w L → ∃ w' L', (Instr.storeAt t p v).run P w = .ok () w' ∧ Hp w0 I w' L' ∧ K L')
inductive YC (f : FuncId) (args : List Value) (K : Value → Hs → Prop) : Prop
  | mk (h : ∀ w, Hp w0 I w L → Calls P f args.toArray w (fun e w' => ∃ v L', e = .returned v ∧ Hp w0 I w' L' ∧ K v L'))
end
/-- A whole number, wrapped. -/
inductive Wr (k : IntKind) (x : Int) (K : Value → Prop) : Prop
  | mk (z : Int) (h : k.wrap x = z) (hk : K (.int k z))
inductive BIf (b : Bool) (X Y : Prop) : Prop
  | mk (ht : b = true → X) (hf : b = false → Y)

/-! ### 4. Tables of the program -/
structure Tab where
  fo : List ((Nat × Nat) × Nat)
  zero : List (Nat × List Value)
  ik : List (Nat × IntKind)
  sc : List Nat
  ag : List (Nat × Nat)
  el : List (Nat × Nat)
  ar : List (Nat × (Nat × Nat))
  fz : List ((Nat × Nat) × Nat)
  fl : List (Nat × List (Option IntKind))
  bd : List Nat
  mp : List (Nat × (Nat × Nat))
  zv : List (Nat × Value)
  nc : List Nat
  calls : Nat

def foAt : List ((Nat × Nat) × Nat) → Nat → Nat → Option Nat
  | [], _, _ => none
  | ((s, f), o) :: r, s', f' => match Nat.beq s s' with
    | true => match Nat.beq f f' with | true => some o | false => foAt r s' f'
    | false => foAt r s' f'
def zAt : List (Nat × List Value) → Nat → Option (List Value)
  | [], _ => none
  | (s, o) :: r, s' => match Nat.beq s s' with | true => some o | false => zAt r s'
def ikAt : List (Nat × IntKind) → Nat → Option IntKind
  | [], _ => none
  | (s, o) :: r, s' => match Nat.beq s s' with | true => some o | false => ikAt r s'

def foOk (P : Program) (x : (Nat × Nat) × Nat) : Bool :=
  match P.underlying x.1.1 with
  | some (.struct fs) => match fs[x.1.2]? with
    | some f => match P.info? f.type with
      | some i => !(i.size == 0) && f.offset == x.2
      | none => false
    | none => false
  | _ => false
def zOk (P : Program) (x : Nat × List Value) : Prop := (P.info? x.1).bind (fun i => i.zero.map (fun v => v.cells.toList)) = some x.2
def ikOk (P : Program) (x : Nat × IntKind) : Bool := match P.underlying x.1 with | some (.int k) => decide (k = x.2) | _ => false
def callOk (P : Program) (f : Nat) : Bool := match P.funcs[f]? with | some fn => !(fn.name == "runtime.NumGoroutine") && !fn.body.isNone | none => false
def scOk (P : Program) (t : Nat) : Bool := match P.underlying t with
  | some (.struct _) => false
  | some (.array _ _) => false
  | some _ => match P.info? t with | some i => i.size == 1 | none => false
  | none => false
def agOk (P : Program) (x : Nat × Nat) : Bool := match P.underlying x.1 with
  | some (.struct _) => match P.info? x.1 with | some i => i.size == x.2 | none => false
  | some (.array _ _) => match P.info? x.1 with | some i => i.size == x.2 | none => false
  | _ => false
def elOk (P : Program) (x : Nat × Nat) : Bool := match P.underlying x.1 with
  | some (.slice e) => match P.info? e with | some i => i.size == x.2 | none => false
  | _ => false
def arOk (P : Program) (x : Nat × (Nat × Nat)) : Bool := match P.underlying x.1 with
  | some (.array n e) => match P.info? e with | some i => i.size == x.2.2 && n == x.2.1 | none => false
  | _ => false
def fzOk (P : Program) (x : (Nat × Nat) × Nat) : Bool := match P.underlying x.1.1 with
  | some (.struct fs) => match fs[x.1.2]? with
    | some f => match P.info? f.type with | some i => i.size == x.2 | none => false
    | none => false
  | _ => false
def flFields (P : Program) : List Field → List (Option IntKind) → Nat → Bool
  | [], [], _ => true
  | f :: fs, k :: ks, i => !(f.name == "_") && f.offset == i && (match P.underlying f.type, k with
    | some (.int k'), some k => decide (k' = k)
    | some .bool, none => true
    | _, _ => false) && flFields P fs ks (i + 1)
  | _, _, _ => false
def flOk (P : Program) (x : Nat × List (Option IntKind)) : Bool := match P.underlying x.1 with
  | some (.struct fs) => !(P.stoodInHeld x.1) && !(P.eqGuardType P.depth x.1) && flFields P fs.toList x.2 0
  | _ => false
def bdOk (P : Program) (t : Nat) : Bool := match P.underlying t with
  | some (.struct fs) => fs.toList.all (fun f => (P.info? f.type).isSome)
  | _ => false
def mpOk (P : Program) (x : Nat × (Nat × Nat)) : Bool := match P.underlying x.1, P.underlying x.2.1 with
  | some (.map k e), some (.int q) => k == x.2.1 && e == x.2.2 && decide (q = .i64)
  | _, _ => false
def zvOk (P : Program) (x : Nat × Value) : Prop := (P.info? x.1).bind (fun i => i.zero) = some x.2
def zvAll (P : Program) : List (Nat × Value) → Prop
  | [] => True
  | x :: r => zvOk P x ∧ zvAll P r
def natAt {α : Type} : List (Nat × α) → Nat → Option α
  | [], _ => none
  | (s, o) :: r, s' => match Nat.beq s s' with | true => some o | false => natAt r s'
theorem natAt_mem {α : Type} : ∀ {l : List (Nat × α)} {s : Nat} {o : α}, natAt l s = some o → (s, o) ∈ l
  | [], s, o, h => by simp [natAt] at h
  | (s', o') :: r, s, o, h => by
    simp only [natAt] at h
    split at h
    · rename_i h1
      obtain rfl : s' = s := by simpa using h1
      simp at h
      simp [h]
    · exact List.mem_cons_of_mem _ (natAt_mem h)
theorem foAt_mem : ∀ {l : List ((Nat × Nat) × Nat)} {s f o : Nat}, foAt l s f = some o → ((s, f), o) ∈ l
  | [], s, f, o, h => by simp [foAt] at h
  | ((s', f'), o') :: r, s, f, o, h => by
    simp only [foAt] at h
    split at h
    · rename_i h1
      split at h
      · rename_i h2
        obtain rfl : s' = s := by simpa using h1
        obtain rfl : f' = f := by simpa using h2
        simp at h
        simp [h]
      · exact List.mem_cons_of_mem _ (foAt_mem h)
    · exact List.mem_cons_of_mem _ (foAt_mem h)
def zAll (P : Program) : List (Nat × List Value) → Prop
  | [] => True
  | x :: r => zOk P x ∧ zAll P r

structure TabOk (P : Program) (T : Tab) : Prop where
  fo : T.fo.all (foOk P) = true
  zero : zAll P T.zero
  ik : T.ik.all (ikOk P) = true
  sc : T.sc.all (scOk P) = true
  ag : T.ag.all (agOk P) = true
  el : T.el.all (elOk P) = true
  ar : T.ar.all (arOk P) = true
  fz : T.fz.all (fzOk P) = true
  fl : T.fl.all (flOk P) = true
  bd : T.bd.all (bdOk P) = true
  mp : T.mp.all (mpOk P) = true
  zv : zvAll P T.zv
  calls : (List.range T.calls).all (fun f => (Nat.ble f 2 || T.nc.contains f) || callOk P f) = true
  mixed : P.follows .mixedOrders = true

theorem fo_spec {P : Program} : ∀ {l : List ((Nat × Nat) × Nat)} {s f o : Nat}, l.all (foOk P) = true → foAt l s f = some o →
    ∀ (a : Addr) (w : World), (Instr.fieldAt s (.pointer (some a)) f).run P w = .ok (.pointer (some (a.add o))) w
  | [], s, f, o, _, h => by simp [foAt] at h
  | ((s', f'), o') :: r, s, f, o, hall, h => by
    simp only [List.all_cons, Bool.and_eq_true] at hall
    simp only [foAt] at h
    split at h
    · rename_i h1
      split at h
      · rename_i h2
        obtain rfl : s' = s := by simpa using h1
        obtain rfl : f' = f := by simpa using h2
        simp at h
        subst h
        intro a w
        have hk := hall.1
        simp only [foOk] at hk
        split at hk
        · rename_i fs hu
          split at hk
          · rename_i fl hf
            split at hk
            · rename_i i hi
              simp at hk
              simp [Instr.fieldAt, underlying, program, Sem.run, hu, hf, Instr.sureAddr, fieldPlace, sizeOf, typeInfo, hi, hk.1, hk.2]
            · simp at hk
          · simp at hk
        · simp at hk
      · exact fo_spec hall.2 h
    · exact fo_spec hall.2 h
theorem z_spec {P : Program} : ∀ {l : List (Nat × List Value)} {t : Nat} {cs : List Value}, zAll P l → zAt l t = some cs →
    ∃ v : Value, v.cells.toList = cs ∧ ∀ w : World, (zeroValue t).run P w = .ok v w
  | [], t, cs, _, h => by simp [zAt] at h
  | (t', cs') :: r, t, cs, hall, h => by
    simp only [zAt] at h
    split at h
    · rename_i h1
      obtain rfl : t' = t := by simpa using h1
      simp at h
      subst h
      have hk := hall.1
      simp only [zOk, Option.bind_eq_some_iff, Option.map_eq_some_iff] at hk
      obtain ⟨i, hi, v, hv, hc⟩ := hk
      exact ⟨v, hc, fun w => by simp [zeroValue, typeInfo, program, Sem.run, hi, hv]⟩
    · exact z_spec hall.2 h

theorem ik_spec {P : Program} : ∀ {l : List (Nat × IntKind)} {t : Nat} {k : IntKind}, l.all (ikOk P) = true → ikAt l t = some k → P.underlying t = some (.int k)
  | [], t, k, _, h => by simp [ikAt] at h
  | (t', k') :: r, t, k, hall, h => by
    simp only [List.all_cons, Bool.and_eq_true] at hall
    simp only [ikAt] at h
    split at h
    · rename_i h1
      obtain rfl : t' = t := by simpa using h1
      simp at h
      subst h
      have hk := hall.1
      simp only [ikOk] at hk
      split at hk
      · rename_i k2 hu
        simp at hk
        rw [hu, hk]
      · simp at hk
    · exact ik_spec hall.2 h

theorem mp_spec {P : Program} {l : List (Nat × (Nat × Nat))} {t k e : Nat} (h : l.all (mpOk P) = true) (hl : natAt l t = some (k, e)) : P.underlying t = some (.map k e) ∧ P.underlying k = some (.int .i64) := by
  have := List.all_eq_true.1 h _ (natAt_mem hl)
  unfold mpOk at this
  dsimp only at this
  split at this
  · rename_i a b q h1 h2
    simp only [Bool.and_eq_true, beq_iff_eq, decide_eq_true_eq] at this
    obtain ⟨⟨rfl, rfl⟩, rfl⟩ := this
    exact ⟨h1, h2⟩
  · cases this
theorem zv_spec {P : Program} : ∀ {l : List (Nat × Value)} {t : Nat} {v : Value}, zvAll P l → natAt l t = some v → ∀ w : World, (zeroValue t).run P w = .ok v w
  | [], t, v, _, h => by simp [natAt] at h
  | (t', v') :: r, t, v, hall, h => by
    simp only [natAt] at h
    split at h
    · rename_i h1
      obtain rfl : t' = t := by simpa using h1
      simp at h
      subst h
      have hk := hall.1
      simp only [zvOk, Option.bind_eq_some_iff] at hk
      obtain ⟨i, hi, hv⟩ := hk
      intro w
      simp [zeroValue, typeInfo, program, Sem.run, hi, hv]
    · exact zv_spec hall.2 h

/-! ### 5. The operations -/
section
variable (P : Program) (w0 : World) (I : List Nat) (T : Tab)

def ikN : IntKind → Nat
  | .i8 => 0 | .i16 => 1 | .i32 => 2 | .i64 => 3 | .u8 => 4 | .u16 => 5 | .u32 => 6 | .u64 => 7
def sameK (k k' : IntKind) (X : Prop) : Prop := match Nat.beq (ikN k) (ikN k') with | true => X | false => False
theorem sameK_spec {k k' : IntKind} {X : Prop} (h : sameK k k' X) : k = k' ∧ X := by
  unfold sameK at h
  split at h
  · rename_i hb
    refine ⟨?_, h⟩
    cases k <;> cases k' <;> first | rfl | (simp [ikN] at hb)
  · exact h.elim

def qbin (L : Hs) (op : BinOp) (t : TypeId) (x y : Operand) (vx vy : Value) (K : Value → Prop) : Prop :=
  match op, vx, vy with
  | .eql, .int k a, .int k' b => sameK k k' (K (.bool (decide (a = b))))
  | .neq, .int k a, .int k' b => sameK k k' (K (.bool (!decide (a = b))))
  | .lss, .int k a, .int k' b => sameK k k' (K (.bool (decide (a < b))))
  | .leq, .int k a, .int k' b => sameK k k' (K (.bool (decide (a ≤ b))))
  | .gtr, .int k a, .int k' b => sameK k k' (K (.bool (decide (b < a))))
  | .geq, .int k a, .int k' b => sameK k k' (K (.bool (decide (b ≤ a))))
  | .add, .int k a, .int k' b => sameK k k' (Wr k (a + b) K)
  | .sub, .int k a, .int k' b => sameK k k' (Wr k (a - b) K)
  | .mul, .int k a, .int k' b => sameK k k' (Wr k (a * b) K)
  | op, vx, vy => YQ P w0 I L (.bin op t x y vx vy) K

def qop (env : Env) (L : Hs) (o : Op) (K : Value → Prop) : Prop :=
  match o with
  | .move x => match ev env x with | some v => K v | none => False
  | .assign x => match ev env x with | some v => K v | none => False
  | .pick c a b => match ev env c with
    | some (.bool t) => BIf t (match ev env a with | some v => K v | none => False) (match ev env b with | some v => K v | none => False)
    | _ => False
  | .binOp op t x y _ => match ev env x with
    | some vx => match ev env y with
      | some vy => qbin P w0 I L op t x y vx vy K
      | none => False
    | none => False
  | .unOp op _ x => match op, ev env x with
    | .not, some (.bool b) => K (.bool (!b))
    | op, some v => YQ P w0 I L (.un op v) K
    | _, none => False
  | .nilCheck x => match ev env x with
    | some (.pointer (some a)) => K (.pointer (some a))
    | _ => False
  | .fieldAddr s x f => match ev env x with
    | some (.pointer (some ⟨b, o, sp⟩)) => match foAt T.fo s f with
      | some off => match sp with
        | none => K (.pointer (some ⟨b, o + off, none⟩))
        | some m => K (.pointer (some ((⟨b, o, some m⟩ : Addr).add off)))
      | none => False
    | _ => False
  | .extract x i => match ev env x with
    | some (.tuple vs) => match vs.toList[i]? with | some v => K v | none => False
    | _ => False
  | .convert s d x => match ev env x with
    | some (.int k n) => match ikAt T.ik d with
      | some k' => match ikAt T.ik s with | some _ => Wr k' n K | none => False
      | none => YQ P w0 I L (.conv s d (.int k n)) K
    | some v => YQ P w0 I L (.conv s d v) K
    | none => False
  | .load t x => match ev env x with | some v => YQ P w0 I L (.load t v) K | none => False
  | .field t x f => match ev env x with | some v => YQ P w0 I L (.field t v f) K | none => False
  | .index t x i => match ev env x with
    | some v => match ev env i with | some vi => YQ P w0 I L (.index t v vi) K | none => False
    | none => False
  | .indexAddr t x i => match ev env x with
    | some v => match ev env i with | some vi => YQ P w0 I L (.indexAddr t v vi) K | none => False
    | none => False
  | .slice t x none none none => match ev env x with | some v => YQ P w0 I L (.slice t v none none) K | none => False
  | .slice t x (some l) none none => match ev env x with
    | some v => match ev env l with | some vl => YQ P w0 I L (.slice t v (some vl) none) K | none => False
    | none => False
  | .slice t x none (some h) none => match ev env x with
    | some v => match ev env h with | some vh => YQ P w0 I L (.slice t v none (some vh)) K | none => False
    | none => False
  | .slice t x (some l) (some h) none => match ev env x with
    | some v => match ev env l with
      | some vl => match ev env h with | some vh => YQ P w0 I L (.slice t v (some vl) (some vh)) K | none => False
      | none => False
    | none => False
  | .build t ps => match evs env (ps.toList.map (·.2)) with
    | some vs => YQ P w0 I L (.build t ((ps.toList.map (·.1)).zip vs)) K
    | none => False
  | .makeFunc fn first captured => match evs env first.toList with
    | some f => match evs env captured.toList with | some c => K (.func fn f.toArray c.toArray) | none => False
    | none => False
  | .lookup t x i ok => match ev env x with
    | some v => match ev env i with | some vi => YQ P w0 I L (.lookup t v vi ok) K | none => False
    | none => False
  | .entry x => match ev env x with | some v => YQ P w0 I L (.entry v) K | none => False
  | .call c => match c.callee with
    | .builtin .len => match evs env c.args.toList with
      | some [.slice a n m] => match c.argTypes.toList with
        | [t] => YQ P w0 I L (.len t (.slice a n m)) K
        | _ => False
      | some vs => YQ P w0 I L (.lens c.argTypes vs) K
      | none => False
    | .builtin .cap => match evs env c.args.toList with
      | some vs => YQ P w0 I L (.cap c.argTypes vs) K
      | none => False
    | .builtin .min => match evs env c.args.toList with
      | some vs => YQ P w0 I L (.min c.argTypes vs) K
      | none => False
    | .builtin .max => match evs env c.args.toList with
      | some vs => YQ P w0 I L (.max c.argTypes vs) K
      | none => False
    | _ => False
  | _ => False
end
section
variable {P : Program} {w0 : World} {I : List Nat} {T : Tab}

theorem run_value {s : Sem Value} {w w' : World} {v : Value} (h : s.run P w = .ok v w') :
    (do pure (Next.value (← s)) : Sem Next).run P w = .ok (.value v) w' := by
  rw [Sem.run_bind, h]; rfl

theorem qbin_sound {L : Hs} {op : BinOp} {t : TypeId} {x y : Operand} {vx vy : Value} {K : Value → Prop} (h : qbin P w0 I L op t x y vx vy K) :
    ∃ v, (∀ w, Hp w0 I w L → (do eqGuard op t x y vx vy; binOp op t vx vy : Sem Value).run P w = .ok v w) ∧ K v := by
  unfold qbin at h
  split at h
  all_goals first
    | (obtain ⟨v, h1, h2⟩ := h; exact ⟨v, h1, h2⟩)
    | (obtain ⟨rfl, z, h1, h2⟩ := sameK_spec h
       refine ⟨_, fun w _ => ?_, h2⟩
       subst h1
       simp [eqGuard, binOp, Op.intArith, Sem.run]
       done)
    | (obtain ⟨rfl, h2⟩ := sameK_spec h
       refine ⟨_, fun w _ => ?_, h2⟩
       simp [eqGuard, binOp, Op.intCmp, Sem.run, bne, BEq.beq]
       done)

theorem zip_parts {ps : List (Nat × Operand)} {f : Operand → Value} {vs : List Value} (h : (ps.map (·.2)).map f = vs) : (ps.map (·.1)).zip vs = ps.map (fun x => (x.1, f x.2)) := by
  subst h
  induction ps with
  | nil => rfl
  | cons p r ih => simp only [List.map_cons, List.zip_cons_cons, ih]

theorem qop_sound (TO : TabOk P T) {n : Nat} {env : Env} {a : Act} {L : Hs} {o : Oper} {K : Value → Prop} (he : ER n env a) (h : qop P w0 I T env L o.op K) :
    ∃ v, (∀ w, Hp w0 I w L → (execOp a.eval o).run P w = .ok (.value v) w) ∧ K v := by
  obtain ⟨dst, op, ty, pos, after, guard⟩ := o
  dsimp only at h ⊢
  unfold qop at h
  split at h
  case h_1 x =>
    split at h
    · rename_i v hx
      exact ⟨v, fun w _ => by simp [execOp, he.ev hx, Sem.run], h⟩
    · exact h.elim
  case h_2 x =>
    split at h
    · rename_i v hx
      exact ⟨v, fun w _ => by simp [execOp, he.ev hx, Sem.run], h⟩
    · exact h.elim
  case h_3 c x y =>
    split at h
    · rename_i t hc
      obtain ⟨ht, hf⟩ := h
      cases t with
      | true =>
        have := ht rfl
        split at this
        · rename_i v hx
          exact ⟨v, fun w _ => by simp [execOp, he.ev hc, he.ev hx, Sem.run, asBool], this⟩
        · exact this.elim
      | false =>
        have := hf rfl
        split at this
        · rename_i v hx
          exact ⟨v, fun w _ => by simp [execOp, he.ev hc, he.ev hx, Sem.run, asBool], this⟩
        · exact this.elim
    · exact h.elim
  case h_4 op t x y _ =>
    split at h
    · rename_i vx hx
      split at h
      · rename_i vy hy
        obtain ⟨v, h1, h2⟩ := qbin_sound h
        refine ⟨v, fun w hw => ?_, h2⟩
        have := run_value (h1 w hw)
        simp only [execOp, he.ev hx, he.ev hy]
        exact this
      · exact h.elim
    · exact h.elim
  case h_5 op _ x =>
    split at h
    · rename_i b hx
      exact ⟨_, fun w _ => by simp [execOp, he.ev hx, Op.unary, Sem.run], h⟩
    · rename_i v _ hx
      obtain ⟨v', h1, h2⟩ := h
      exact ⟨v', fun w hw => by simp only [execOp, he.ev hx]; exact run_value (h1 w hw), h2⟩
    · exact h.elim
  case h_6 x =>
    split at h
    · rename_i p hx
      exact ⟨_, fun w _ => by simp [execOp, he.ev hx, Sem.run], h⟩
    · exact h.elim
  case h_7 s x f =>
    split at h
    · rename_i b o sp hx
      split at h
      · rename_i off ho
        cases sp with
        | none =>
          refine ⟨_, fun w _ => ?_, h⟩
          simp only [execOp, he.ev hx]
          have := run_value (fo_spec TO.fo ho ⟨b, o, none⟩ w)
          have e : (⟨b, o, none⟩ : Addr).add off = ⟨b, o + off, none⟩ := by unfold Addr.add; split <;> simp_all
          rw [e] at this
          exact this
        | some m =>
          refine ⟨_, fun w _ => ?_, h⟩
          simp only [execOp, he.ev hx]
          exact run_value (fo_spec TO.fo ho ⟨b, o, some m⟩ w)
      · exact h.elim
    · exact h.elim
  case h_8 x i =>
    split at h
    · rename_i vs hx
      split at h
      · rename_i v hv
        have hv' : vs[i]? = some v := by rw [← Array.getElem?_toList]; exact hv
        exact ⟨v, fun w _ => by simp [execOp, he.ev hx, Instr.extract, hv', Sem.run], h⟩
      · exact h.elim
    · exact h.elim
  case h_9 s d x =>
    split at h
    · rename_i k m hx
      split at h
      · rename_i k' hk
        split at h
        · rename_i ks hs
          obtain ⟨z, rfl, hz⟩ := h
          have hd := ik_spec TO.ik hk
          have hss := ik_spec TO.ik hs
          exact ⟨_, fun w _ => by simp [execOp, he.ev hx, convert, underlying, program, Sem.run, hd, hss, Conv.intToInt], hz⟩
        · exact h.elim
      · obtain ⟨v', h1, h2⟩ := h
        exact ⟨v', fun w hw => by simp only [execOp, he.ev hx]; exact run_value (h1 w hw), h2⟩
    · rename_i v _ hx
      obtain ⟨v', h1, h2⟩ := h
      exact ⟨v', fun w hw => by simp only [execOp, he.ev hx]; exact run_value (h1 w hw), h2⟩
    · exact h.elim
  case h_19 fn first captured =>
    split at h
    · rename_i f hf
      split at h
      · rename_i c hc
        have h1 : first.map a.eval = f.toArray := by
          apply Array.ext'; simp [← he.evs hf]
        have h2 : captured.map a.eval = c.toArray := by
          apply Array.ext'; simp [← he.evs hc]
        exact ⟨_, fun w _ => by simp [execOp, h1, h2, Instr.makeFunc, Sem.run], h⟩
      · exact h.elim
    · exact h.elim
  case h_18 t ps =>
    split at h
    · rename_i vs hvs
      obtain ⟨v, h1, h2⟩ := h
      refine ⟨v, fun w hw => ?_, h2⟩
      have hz := zip_parts (he.evs hvs)
      have hps : (ps.map fun x => (x.1, a.eval x.2)) = ((ps.toList.map (·.1)).zip vs).toArray := by
        apply Array.ext'; simp [hz]
      have := run_value (h1 w hw)
      simp only [Rq.sem] at this
      rw [← hps] at this
      simp only [execOp]
      exact this
    · exact h.elim
  case h_21 x =>
    split at h
    · rename_i vx hx
      obtain ⟨v', h1, h2⟩ := h
      exact ⟨v', fun w hw => by
        simp only [execOp, Option.map, he.ev hx]
        exact run_value (h1 w hw), h2⟩
    · exact h.elim
  case h_22 c =>
    obtain ⟨callee, args, argTypes⟩ := c
    dsimp only at h
    have hmap : ∀ {vs : List Value}, evs env args.toList = some vs → args.map a.eval = vs.toArray := by
      intro vs hvs; apply Array.ext'; simp [← he.evs hvs]
    split at h
    · split at h
      · rename_i x n m hvs
        split at h
        · rename_i t ht
          obtain ⟨v, h1, h2⟩ := h
          refine ⟨v, fun w hw => ?_, h2⟩
          have ht' : argTypes = #[t] := by apply Array.ext'; simpa using ht
          have := run_value (h1 w hw)
          simp only [Rq.sem] at this
          simp only [execOp, resolve, invoke, builtin, hmap hvs, ht']
          simpa [Builtin.len_, Sem.run_bind] using this
        · exact h.elim
      · rename_i vs _ hvs
        obtain ⟨v, h1, h2⟩ := h
        refine ⟨v, fun w hw => ?_, h2⟩
        have := run_value (h1 w hw)
        simp only [Rq.sem] at this
        simp only [execOp, resolve, invoke, builtin, hmap hvs]
        simpa [Builtin.len_, Sem.run_bind] using this
      · exact h.elim
    all_goals first
      | exact h.elim
      | (split at h
         · rename_i vs hvs
           obtain ⟨v, h1, h2⟩ := h
           refine ⟨v, fun w hw => ?_, h2⟩
           have := run_value (h1 w hw)
           simp only [Rq.sem] at this
           simp only [execOp, resolve, invoke, builtin, hmap hvs]
           first
             | simpa [Builtin.cap_, Sem.run_bind] using this
             | simpa [Builtin.min_, Sem.run_bind] using this
             | simpa [Builtin.max_, Sem.run_bind] using this
         · exact h.elim)
  case h_23 => exact h.elim
  case h_10 t x =>
    split at h
    · rename_i vx hx
      obtain ⟨v', h1, h2⟩ := h
      exact ⟨v', fun w hw => by
        simp only [execOp, Option.map, he.ev hx]
        exact run_value (h1 w hw), h2⟩
    · exact h.elim
  case h_11 t x f =>
    split at h
    · rename_i vx hx
      obtain ⟨v', h1, h2⟩ := h
      exact ⟨v', fun w hw => by
        simp only [execOp, Option.map, he.ev hx]
        exact run_value (h1 w hw), h2⟩
    · exact h.elim
  case h_12 t x i =>
    split at h
    · rename_i vx hx
      split at h
      · rename_i vi hi
        obtain ⟨v', h1, h2⟩ := h
        exact ⟨v', fun w hw => by
          simp only [execOp, Option.map, he.ev hx, he.ev hi]
          exact run_value (h1 w hw), h2⟩
      · exact h.elim
    · exact h.elim
  case h_13 t x i =>
    split at h
    · rename_i vx hx
      split at h
      · rename_i vi hi
        obtain ⟨v', h1, h2⟩ := h
        exact ⟨v', fun w hw => by
          simp only [execOp, Option.map, he.ev hx, he.ev hi]
          exact run_value (h1 w hw), h2⟩
      · exact h.elim
    · exact h.elim
  case h_14 t x =>
    split at h
    · rename_i vx hx
      obtain ⟨v', h1, h2⟩ := h
      exact ⟨v', fun w hw => by
        simp only [execOp, Option.map, he.ev hx]
        exact run_value (h1 w hw), h2⟩
    · exact h.elim
  case h_15 t x l =>
    split at h
    · rename_i vx hx
      split at h
      · rename_i vl hl
        obtain ⟨v', h1, h2⟩ := h
        exact ⟨v', fun w hw => by
          simp only [execOp, Option.map, he.ev hx, he.ev hl]
          exact run_value (h1 w hw), h2⟩
      · exact h.elim
    · exact h.elim
  case h_16 t x u =>
    split at h
    · rename_i vx hx
      split at h
      · rename_i vu hu
        obtain ⟨v', h1, h2⟩ := h
        exact ⟨v', fun w hw => by
          simp only [execOp, Option.map, he.ev hx, he.ev hu]
          exact run_value (h1 w hw), h2⟩
      · exact h.elim
    · exact h.elim
  case h_17 t x l u =>
    split at h
    · rename_i vx hx
      split at h
      · rename_i vl hl
        split at h
        · rename_i vu hu
          obtain ⟨v', h1, h2⟩ := h
          exact ⟨v', fun w hw => by
            simp only [execOp, Option.map, he.ev hx, he.ev hl, he.ev hu]
            exact run_value (h1 w hw), h2⟩
        · exact h.elim
      · exact h.elim
    · exact h.elim
  case h_20 t x i ok =>
    split at h
    · rename_i vx hx
      split at h
      · rename_i vi hi
        obtain ⟨v', h1, h2⟩ := h
        exact ⟨v', fun w hw => by
          simp only [execOp, Option.map, he.ev hx, he.ev hi]
          exact run_value (h1 w hw), h2⟩
      · exact h.elim
    · exact h.elim
end

/-! ### 6. Operations that write, make memory, call -/
section
variable (P : Program) (w0 : World) (I : List Nat) (T : Tab)

/-- A list laid out cell by cell, so that what is reckoned next does not reckon it anew. -/
noncomputable def forceL (L : Hs) : (Hs → Prop) → Prop :=
  List.rec (motive := fun _ => (Hs → Prop) → Prop) (fun K => K []) (fun e _ ih K => ih (fun r => K (e :: r))) L
theorem forceL_eq : ∀ (L : Hs) (K : Hs → Prop), forceL L K = K L
  | [], K => rfl
  | e :: r, K => by
    show forceL r (fun r => K (e :: r)) = K (e :: r)
    rw [forceL_eq r]
/-- A function that is called by its contract. -/
def callB (T : Tab) (g : Nat) : Bool := Nat.blt 2 g && Nat.blt g T.calls && !T.nc.contains g
noncomputable def wop (env : Env) (L : Hs) (o : Op) (K : Value → Hs → Prop) : Prop :=
  match o with
  | .alloc e => match zAt T.zero e with
    | some cs => match isC e with | true => ∀ b, forceL (L ++ [⟨b, e, cs⟩]) (K (.pointer (some ⟨b, 0, none⟩))) | false => False
    | none => False
  | .box e x => match ev env x with
    | some v => match isC e with | true => ∀ b, forceL (L ++ [⟨b, e, v.cells.toList⟩]) (K (.pointer (some ⟨b, 0, none⟩))) | false => False
    | none => False
  | .store t x y => match ev env x with
    | some p => match ev env y with | some v => YU P w0 I L t p v (fun L' => forceL L' (K undef)) | none => False
    | none => False
  | .buildSlice t len ps => match evs env (ps.toList.map (·.2)) with
    | some vs => YW P w0 I L (.bslice t len ((ps.toList.map (·.1)).zip vs)) (fun v L' => forceL L' (K v))
    | none => False
  | .makeSlice t x y => match ev env x with
    | some vx => match ev env y with | some vy => YW P w0 I L (.mslice t vx vy) (fun v L' => forceL L' (K v)) | none => False
    | none => False
  | .makeMap t none => YW P w0 I L (.mmap t) (fun v L' => forceL L' (K v))
  | .mapUpdate t x y z => match ev env x with
    | some vx => match ev env y with
      | some vy => match ev env z with | some vz => YW P w0 I L (.mupd t vx vy vz) (fun v L' => forceL L' (K v)) | none => False
      | none => False
    | none => False
  | .range t x => match ev env x with | some v => YW P w0 I L (.range t v) (fun v L' => forceL L' (K v)) | none => False
  | .next x b => match ev env x with | some v => YW P w0 I L (.next v b) (fun v L' => forceL L' (K v)) | none => False
  | .call c => match c.callee with
    | .value f => match ev env f with
      | some (.func (.func g) first captured) => match evs env c.args.toList with
        | some vs => match callB T g with
          | true => YC P w0 I L g (first.toList ++ vs ++ captured.toList) (fun v L' => forceL L' (K v))
          | false => False
        | none => False
      | _ => False
    | .builtin .append => match evs env c.args.toList with
      | some vs => YW P w0 I L (.append c.argTypes vs) (fun v L' => forceL L' (K v))
      | none => False
    | .builtin .copy => match evs env c.args.toList with
      | some vs => YW P w0 I L (.copy c.argTypes vs) (fun v L' => forceL L' (K v))
      | none => False
    | .builtin .clear => match evs env c.args.toList with
      | some vs => YW P w0 I L (.clear c.argTypes vs) (fun v L' => forceL L' (K v))
      | none => False
    | .builtin .delete => match evs env c.args.toList with
      | some vs => YW P w0 I L (.delete c.argTypes vs) (fun v L' => forceL L' (K v))
      | none => False
    | _ => qop P w0 I T env L (.call c) (fun v => K v L)
  | o => qop P w0 I T env L o (fun v => K v L)

inductive gsplit (b : Bool) (X Y : Prop) : Prop
  | mk (ht : b = true → X) (hf : b = false → Y)

def lgetO : List Oper → Nat → Option Oper
  | [], _ => none
  | o :: r, i => match i with | 0 => some o | i + 1 => lgetO r i

def bindTo (n : Nat) (env : Env) (d : Option Nat) (v : Value) (K : Env → Prop) : Prop :=
  match d with
  | none => K env
  | some d => match Nat.blt d n with | true => K ((d, v) :: env) | false => False

/-- One operation; 'ih': those behind it. -/
noncomputable def stepOp (n : Nat) (full : List Oper) (o : Oper) (ih : (Env → Hs → Prop) → Env → Hs → Prop) (K : Env → Hs → Prop) (env : Env) (L : Hs) : Prop :=
    match o.guard with
    | none => wop P w0 I T env L o.op (fun v L' => bindTo n env o.dst v (fun env' => ih K env' L'))
    | some (j, want) => match lgetO full j with
      | none => False
      | some g => match g.dst with
        | none => False
        | some d => match get env d with
          | some (.bool b) => match want with
            | true => gsplit b (wop P w0 I T ((d, .bool true) :: env) L o.op (fun v L' => bindTo n ((d, .bool true) :: env) o.dst v (fun env' => ih K env' L'))) (bindTo n ((d, .bool false) :: env) o.dst undef (fun env' => ih K env' L))
            | false => gsplit b (bindTo n ((d, .bool true) :: env) o.dst undef (fun env' => ih K env' L)) (wop P w0 I T ((d, .bool false) :: env) L o.op (fun v L' => bindTo n ((d, .bool false) :: env) o.dst v (fun env' => ih K env' L')))
          | some (.tuple vs) => bindTo n env o.dst undef (fun env' => ih K env' L)
          | _ => False
/-- The operations, one by one. (By the recursor itself: so the kernel unfolds it as the tactics do.) -/
noncomputable def vcOps (n : Nat) (full l : List Oper) : (Env → Hs → Prop) → Env → Hs → Prop :=
  List.rec (motive := fun _ => (Env → Hs → Prop) → Env → Hs → Prop) (fun K env L => K env L) (fun o _ ih => stepOp P w0 I T n full o ih) l
theorem vcOps_nil (n : Nat) (full : List Oper) (K : Env → Hs → Prop) (env : Env) (L : Hs) : vcOps P w0 I T n full [] K env L = K env L := rfl
theorem vcOps_cons (n : Nat) (full : List Oper) (o : Oper) (rest : List Oper) (K : Env → Hs → Prop) (env : Env) (L : Hs) :
    vcOps P w0 I T n full (o :: rest) K env L = stepOp P w0 I T n full o (vcOps P w0 I T n full rest) K env L := rfl

def stepQ (n : Nat) (full : List Oper) (o : Oper) (ih : (Env → Prop) → Env → Hs → Prop) (K : Env → Prop) (env : Env) (L : Hs) : Prop :=
    match o.guard with
    | none => qop P w0 I T env L o.op (fun v => bindTo n env o.dst v (fun env' => ih K env' L))
    | some (j, want) => match lgetO full j with
      | none => False
      | some g => match g.dst with
        | none => False
        | some d => match get env d with
          | some (.bool b) => match want with
            | true => gsplit b (qop P w0 I T ((d, .bool true) :: env) L o.op (fun v => bindTo n ((d, .bool true) :: env) o.dst v (fun env' => ih K env' L))) (bindTo n ((d, .bool false) :: env) o.dst undef (fun env' => ih K env' L))
            | false => gsplit b (bindTo n ((d, .bool true) :: env) o.dst undef (fun env' => ih K env' L)) (qop P w0 I T ((d, .bool false) :: env) L o.op (fun v => bindTo n ((d, .bool false) :: env) o.dst v (fun env' => ih K env' L)))
          | some (.tuple vs) => bindTo n env o.dst undef (fun env' => ih K env' L)
          | _ => False
/-- Those at the head of a region that draws its order: nothing turns. -/
noncomputable def vcQs (n : Nat) (full l : List Oper) : (Env → Prop) → Env → Hs → Prop :=
  List.rec (motive := fun _ => (Env → Prop) → Env → Hs → Prop) (fun K env L => K env) (fun o _ ih => stepQ P w0 I T n full o ih) l
theorem vcQs_nil (n : Nat) (full : List Oper) (K : Env → Prop) (env : Env) (L : Hs) : vcQs P w0 I T n full [] K env L = K env := rfl
theorem vcQs_cons (n : Nat) (full : List Oper) (o : Oper) (rest : List Oper) (K : Env → Prop) (env : Env) (L : Hs) :
    vcQs P w0 I T n full (o :: rest) K env L = stepQ P w0 I T n full o (vcQs P w0 I T n full rest) K env L := rfl

/-- An operation that looks at no memory. -/
def pop (T : Tab) (env : Env) (o : Op) (K : Value → Prop) : Prop :=
  match o with
  | .move x => match ev env x with | some v => K v | none => False
  | .assign x => match ev env x with | some v => K v | none => False
  | .fieldAddr s x f => match ev env x with
    | some (.pointer (some ⟨b, o, none⟩)) => match foAt T.fo s f with
      | some off => K (.pointer (some ⟨b, o + off, none⟩))
      | none => False
    | _ => False
  | .extract x i => match ev env x with
    | some (.tuple vs) => match vs.toList[i]? with | some v => K v | none => False
    | _ => False
  | _ => False
/-- The orders of a region, as a plan: what looks at no memory is taken first, else each that may come is. -/
inductive Plan where
  | done
  | take (i : Nat) (p : Plan)
  | one (i : Nat) (p : Plan)
  | fork (i : Nat) (p r : Plan)
def Plan.idx : Plan → List Nat
  | .one i _ => [i]
  | .fork i _ r => i :: r.idx
  | _ => []
def planB (ops : Array Oper) : Plan → Bool → Nat → Array Bool → Bool
  | .done, c, _, ls => !c && (Region.ready .any ops ls).isEmpty
  | .take i p, c, f, ls => match f with
    | 0 => false
    | f + 1 => !c && (Region.ready .any ops ls).contains i && Region.free .any ops ls i && planB ops p false f (ls.setIfInBounds i true)
  | .one i p, c, f, ls => match f with
    | 0 => false
    | f + 1 => (c || decide (Region.ready .any ops ls = [i])) && planB ops p false f (ls.setIfInBounds i true)
  | .fork i p r, c, f, ls => match f with
    | 0 => false
    | f + 1 => (c || decide (Region.ready .any ops ls = i :: r.idx)) && planB ops p false f (ls.setIfInBounds i true) && planB ops r true (f + 1) ls
inductive Fork (A B : Prop) : Prop
  | mk (a : A) (b : B)
def stepP (n : Nat) (T : Tab) (o : Oper) (ih : (Env → Hs → Prop) → Env → Hs → Prop) (K : Env → Hs → Prop) (env : Env) (L : Hs) : Prop :=
  match o.guard with
  | none => pop T env o.op (fun v => bindTo n env o.dst v (fun env' => ih K env' L))
  | some _ => False
noncomputable def vPlan (n : Nat) (full : List Oper) (p : Plan) : (Env → Hs → Prop) → Env → Hs → Prop :=
  Plan.rec (motive := fun _ => (Env → Hs → Prop) → Env → Hs → Prop) (fun K env L => K env L)
    (fun i _ ih K env L => match lgetO full i with | some o => stepP n T o ih K env L | none => False)
    (fun i _ ih K env L => match lgetO full i with | some o => stepOp P w0 I T n full o ih K env L | none => False)
    (fun i _ _ ih ihr K env L => Fork (match lgetO full i with | some o => stepOp P w0 I T n full o ih K env L | none => False) (ihr K env L)) p

/-- Each operation behind the n-th waits for one from the n-th on. -/
def behindB (ops : Array Oper) (n : Nat) : Bool :=
  (List.range ops.size).all fun t => decide (t ≤ n) || (List.range t).any fun j => decide (n ≤ j) && Region.waitsFor .any ops t j
/-- The first operations may be taken as they stand. -/
def headB (ops : Array Oper) (B : Array Bool → Bool) : Nat → Nat → Array Bool → Bool
  | 0, _, ls => B ls
  | f + 1, k, ls => (Region.ready .any ops ls).contains k && Region.free .any ops ls k && headB ops B f (k + 1) (ls.setIfInBounds k true)
def headPlanB (ops : Array Oper) (n : Nat) (p : Plan) : Bool :=
  Region.noSelect ops && decide (n < ops.size) && Region.sinkB .any ops n && behindB ops n && headB ops (planB ops p false (ops.size - n)) n 0 (Array.replicate ops.size false)
/-- A region that draws its order: its first operations turn nothing, the others stand one behind the other. -/
inductive Dr (n : Nat) (ops : List Oper) (K : Env → Hs → Prop) (env : Env) (L : Hs) : Prop
  | mk (m : Nat) (hB : Region.lexTailB .any ops.toArray m = true) (h : vcQs P w0 I T n ops (ops.take m) (fun env' => vcOps P w0 I T n ops (ops.drop m) K env' L) env L)
  | all (hB : Region.lexB .any ops.toArray = true) (h : vcQs P w0 I T n ops ops (fun env' => K env' L) env L)
  | mp (m : Nat) (p : Plan) (hB : headPlanB ops.toArray m p = true) (h : vcQs P w0 I T n ops (ops.take m) (fun env' => vPlan P w0 I T n ops p K env' L) env L)
  | any (p : Plan) (hB : (Region.noSelect ops.toArray && planB ops.toArray p false ops.length (Array.replicate ops.toArray.size false)) = true) (h : vPlan P w0 I T n ops p K env L)
end

def getAll (env : Env) : List Nat → Option (List Value)
  | [] => some []
  | i :: r => match get env i with
    | some v => match getAll env r with | some l => some (v :: l) | none => none
    | none => none

def zipE : List Nat → List Value → Env → Env
  | i :: r, v :: vs, env => (i, v) :: zipE r vs env
  | _, _, env => env

def dstsOps (l : List Oper) : List Nat := l.filterMap (·.dst)
def dsts : Code → List Nat
  | .seq a b => dsts a ++ dsts b
  | .cond _ a b => dsts a ++ dsts b
  | .block _ a => dsts a
  | .loop a => dsts a
  | .scope a => dsts a
  | .region _ ops _ => dstsOps ops.toList
  | _ => []
def memB (i : Nat) : List Nat → Bool
  | [] => false
  | j :: r => match Nat.beq i j with | true => true | false => memB i r
def disj : List Nat → List Nat → Bool
  | [], _ => true
  | i :: r, D => match memB i D with | true => false | false => disj r D

def Pre (L1 L2 : Hs) : Prop := ∃ r, L2 = L1 ++ r
/-- Those at some places of a list. -/
def sel (L : Hs) : List Nat → Option Hs
  | [] => some []
  | i :: r => match L[i]? with
    | some e => match sel L r with | some l => some (e :: l) | none => none
    | none => none
def uniq : List Nat → Bool
  | [] => true
  | i :: r => match memB i r with | true => false | false => uniq r
def Sub (L1 L2 : Hs) : Prop := ∃ is, sel L2 is = some L1 ∧ uniq is = true

/-- So many rounds, one behind the other. -/
noncomputable def unr (F : (Exit → Env → Hs → Prop) → Env → Hs → Prop) (k : Exit → Env → Hs → Prop) (m : Nat) : Env → Hs → Prop :=
  Nat.rec (motive := fun _ => Env → Hs → Prop) (fun _ _ => False) (fun _ ih env L => F (fun e env' L' => match e with | .normal => ih env' L' | e => k e env' L') env L) m

inductive Lp (D : List Nat) (F : (Exit → Env → Hs → Prop) → Env → Hs → Prop) (k : Exit → Env → Hs → Prop) : Env → Hs → Prop
  | mk {env : Env} {L : Hs} {α : Type} (S Kp : List Nat) (kv : List Value) (vals : α → List Value) (hp : α → Hs) (Inv : α → Prop) (μ : α → Nat)
      (hk : getAll env Kp = some kv) (hd : disj Kp D = true)
      (x0 : α) (h0 : Inv x0) (hv : getAll env S = some (vals x0)) (hl : Pre (hp x0) L)
      (step : ∀ x, Inv x → F (fun e env' L' => match e with
        | .normal => ∃ x', Inv x' ∧ μ x' < μ x ∧ getAll env' S = some (vals x') ∧ Pre (hp x') L'
        | e => k e env' L') (zipE S (vals x) (zipE Kp kv [])) (hp x)) : Lp D F k env L
  | sub {env : Env} {L : Hs} {α : Type} (S Kp : List Nat) (kv : List Value) (vals : α → List Value) (hp : α → Hs) (Inv : α → Prop) (μ : α → Nat)
      (hk : getAll env Kp = some kv) (hd : disj Kp D = true)
      (x0 : α) (h0 : Inv x0) (hv : getAll env S = some (vals x0)) (hl : Sub (hp x0) L)
      (step : ∀ x, Inv x → F (fun e env' L' => match e with
        | .normal => ∃ x', Inv x' ∧ μ x' < μ x ∧ getAll env' S = some (vals x') ∧ Sub (hp x') L'
        | e => k e env' L') (zipE S (vals x) (zipE Kp kv [])) (hp x)) : Lp D F k env L
  | rounds {env : Env} {L : Hs} (m : Nat) (h : unr F k m env L) : Lp D F k env L
  | prune {env : Env} {L : Hs} (S : List Nat) (vs : List Value) (L' : Hs) (hv : getAll env S = some vs) (hl : Sub L' L) (h : Lp D F k (zipE S vs []) L') : Lp D F k env L

section
variable (P : Program) (w0 : World) (I : List Nat) (T : Tab) (n : Nat)
abbrev Kx := Exit → Env → Hs → Prop
abbrev Vx := Kx → Env → Hs → Prop
def vSkip : Vx := fun k env L => k .normal env L
noncomputable def vRegion (ops : Array Oper) (draw : Bool) : Vx := fun k env L => match draw with
    | false => vcOps P w0 I T n ops.toList ops.toList (fun env' L' => k .normal env' L') env L
    | true => Dr P w0 I T n ops.toList (fun env' L' => k .normal env' L') env L
def vSeq (x y : Vx) : Vx := fun k env L => x (fun e env' L' => match e with | .normal => y k env' L' | e => k e env' L') env L
def vCond (c : Operand) (x y : Vx) : Vx := fun k env L => match c with
    | .tmp d => match get env d with
      | some (.bool b) => gsplit b (x k ((d, .bool true) :: env) L) (y k ((d, .bool false) :: env) L)
      | _ => False
    | .const (.bool b) => gsplit b (x k env L) (y k env L)
    | _ => False
def vBlock (id : Nat) (x : Vx) : Vx := fun k env L => x (fun e env' L' => match e with
    | .exit id' => match Nat.beq id' id with | true => k .normal env' L' | false => k (.exit id') env' L'
    | e => k e env' L') env L
def vLoop (c : Code) (x : Vx) : Vx := fun k env L => Lp (dsts c) x k env L
def vNo : Vx := fun _ _ _ => False
def vScope (x : Vx) : Vx := fun k env L => x (fun e env' L' => match e with | .goto _ => False | e => k e env' L') env L
def vRet : Vx := fun k env L => k .ret env L
def vExit (id : Nat) : Vx := fun k env L => k (.exit id) env L
noncomputable def vc (c : Code) : Vx :=
  Code.rec (motive := fun _ => Vx) vSkip (fun _ ops draw => vRegion P w0 I T n ops draw) (fun _ _ x y => vSeq x y) (fun c _ _ x y => vCond c x y) (fun id _ x => vBlock id x) (fun c x => vLoop c x)
    (fun _ _ _ _ _ _ => vNo) (fun id => vExit id) (fun _ x => vScope x) (fun _ => vSkip) (fun _ => vNo) vRet (fun _ => vNo) c
end

/-! ### 7. That it is sound -/
section
variable {P : Program} {w0 : World} {I : List Nat} {T : Tab}

theorem wop_sound (TO : TabOk P T) {n : Nat} {env : Env} {a : Act} {L : Hs} {o : Oper} {K : Value → Hs → Prop} (he : ER n env a) (h : wop P w0 I T env L o.op K)
    {w : World} (hw : Hp w0 I w L) {next : Act → World → Prop} {Q : Exit → Act → World → Prop} (hn : ∀ v w' L', Hp w0 I w' L' → K v L' → next (a.put o.dst v) w') : o.wp P a w next Q := by
  have hq : qop P w0 I T env L o.op (fun v => K v L) → o.wp P a w next Q := by
    intro h
    obtain ⟨v, h1, h2⟩ := qop_sound TO he h
    unfold Oper.wp
    rw [h1 w hw]
    exact hn v w L hw h2
  have hval : ∀ {s : Wq}, execOp a.eval o = (do pure (Next.value (← s.sem)) : Sem Next) → YW P w0 I L s (fun v L' => forceL L' (K v)) → o.wp P a w next Q := by
    intro s hs hy
    obtain ⟨h1⟩ := hy
    obtain ⟨v, w', L', hr, hp, hk⟩ := h1 w hw
    unfold Oper.wp
    rw [hs, run_value hr]
    rw [forceL_eq] at hk
    exact hn v w' L' hp hk
  obtain ⟨dst, op, ty, pos, after, guard⟩ := o
  dsimp only at h hq hn ⊢
  unfold wop at h
  split at h
  case h_1 e =>
    split at h
    · rename_i cs hz
      split at h
      · rename_i hisc
        obtain ⟨v, hv, hr⟩ := z_spec TO.zero hz
        have hp := hw.alloc e cs hisc
        refine (show _ from ?_)
        unfold Oper.wp
        have hrun : (Instr.alloc e true (.tuple #[])).run P w = .ok (.pointer (some ⟨w.heap.size, 0, none⟩)) (w.alloc (.cells cs.toArray e)) := by
          have hv' : v.cells = cs.toArray := by apply Array.ext'; simpa using hv
          simp [Instr.alloc, hr, newVar, newRow, newObj, hv']; rfl
        simp only [execOp]
        rw [run_value hrun]
        exact hn _ _ _ hp (by have := h w.heap.size; rwa [forceL_eq] at this)
      · exact h.elim
    · exact h.elim
  case h_2 e x =>
    split at h
    · rename_i v hx
      split at h
      · rename_i hisc
        have hp := hw.alloc e v.cells.toList hisc
        unfold Oper.wp
        have hrun : (Instr.box e v).run P w = .ok (.pointer (some ⟨w.heap.size, 0, none⟩)) (w.alloc (.cells v.cells.toList.toArray e)) := by
          simp [Instr.box, newVar, newRow, newObj]; rfl
        simp only [execOp, he.ev hx]
        rw [run_value hrun]
        exact hn _ _ _ hp (by have := h w.heap.size; rwa [forceL_eq] at this)
      · exact h.elim
    · exact h.elim
  case h_3 t x y =>
    split at h
    · rename_i p hx
      split at h
      · rename_i v hy
        obtain ⟨h1⟩ := h
        obtain ⟨w', L', hr, hp, hk⟩ := h1 w hw
        unfold Oper.wp
        simp only [execOp, he.ev hx, he.ev hy]
        rw [Sem.run_bind, hr]
        exact hn undef w' L' hp (by rwa [forceL_eq] at hk)
      · exact h.elim
    · exact h.elim
  case h_4 t len ps =>
    split at h
    · rename_i vs hvs
      have hz := zip_parts (he.evs hvs)
      have hps : (ps.map fun x => (x.1, a.eval x.2)) = ((ps.toList.map (·.1)).zip vs).toArray := by
        apply Array.ext'; simp [hz]
      refine hval ?_ h
      simp only [Wq.sem, execOp]
      rw [← hps]
    · exact h.elim
  case h_5 t x y =>
    split at h
    · rename_i vx hx
      split at h
      · rename_i vy hy
        refine hval ?_ h
        simp only [Wq.sem, execOp, he.ev hx, he.ev hy]
      · exact h.elim
    · exact h.elim
  case h_6 t => exact hval rfl h
  case h_7 t x y z =>
    split at h
    · rename_i vx hx
      split at h
      · rename_i vy hy
        split at h
        · rename_i vz hz
          obtain ⟨h1⟩ := h
          obtain ⟨v, w', L', hr, hp, hk⟩ := h1 w hw
          unfold Oper.wp
          simp only [execOp, he.ev hx, he.ev hy, he.ev hz]
          simp only [Wq.sem, Sem.run_bind] at hr
          rw [Sem.run_bind]
          cases hm : (Instr.mapUpdate t vx vy vz).run P w with
          | ok u w1 =>
            rw [hm] at hr
            simp only [Result.andThen, Sem.run_pure, Result.ok.injEq] at hr
            obtain ⟨rfl, rfl⟩ := hr
            exact hn undef w1 L' hp (by rwa [forceL_eq] at hk)
          | _ => rw [hm] at hr; cases hr
        · exact h.elim
      · exact h.elim
    · exact h.elim
  case h_8 t x =>
    split at h
    · rename_i vx hx
      refine hval ?_ h
      simp only [Wq.sem, execOp, he.ev hx]
    · exact h.elim
  case h_9 x bb =>
    split at h
    · rename_i vx hx
      refine hval ?_ h
      simp only [Wq.sem, execOp, he.ev hx]
      rfl
    · exact h.elim
  case h_10 c =>
    obtain ⟨callee, args, argTypes⟩ := c
    dsimp only at h hq
    have hmap : ∀ {vs : List Value}, evs env args.toList = some vs → args.map a.eval = vs.toArray := by
      intro vs hvs; apply Array.ext'; simp [← he.evs hvs]
    split at h
    · rename_i f
      split at h
      · rename_i g first captured hf
        split at h
        · rename_i vs hvs
          split at h
          · rename_i hg
            simp only [callB, Bool.and_eq_true] at hg
            have hg' : g < T.calls := by simpa using hg.1.2
            have hg2 : 2 < g := by simpa using hg.1.1
            have hg3 : T.nc.contains g = false := by simpa using hg.2
            have hok := List.all_eq_true.1 TO.calls g (List.mem_range.2 hg')
            simp only [Bool.or_eq_true] at hok
            have hok := hok.resolve_left (by rw [hg3]; simp; omega)
            unfold callOk at hok
            split at hok
            · rename_i fn hfn
              simp only [Bool.and_eq_true, Bool.not_eq_true'] at hok
              obtain ⟨h1⟩ := h
              have hc := h1 w hw
              unfold Oper.wp
              have hrun : (execOp a.eval ⟨dst, .call { callee := .value f, args, argTypes }, ty, pos, after, guard⟩).run P w = .ok (.enter g (first.toList ++ vs ++ captured.toList).toArray) w := by
                have e1 : (first ++ vs.toArray ++ captured) = (first.toList ++ vs ++ captured.toList).toArray := by apply Array.ext'; simp
                have hne : ¬ fn.name = "runtime.NumGoroutine" := by simpa using hok.1
                have hb : ¬ fn.body = none := by
                  intro hb0
                  have := hok.2
                  rw [hb0] at this
                  simp at this
                simp only [execOp, resolve, he.ev hf, Deferred.ofValue, hmap hvs]
                rw [← e1]
                simp [Sem.run_bind, Sem.run, invoke, callFunc, program, hfn, hne, hb]
              rw [hrun]
              refine hc.mono ?_
              rintro e w' ⟨v, L', rfl, hp, hk⟩
              exact hn v w' L' hp (by rwa [forceL_eq] at hk)
            · simp at hok
          · exact h.elim
        · exact h.elim
      · exact h.elim
    all_goals first
      | exact hq h
      | (split at h
         · rename_i vs hvs
           refine hval ?_ h
           simp only [Wq.sem, execOp, resolve, invoke, builtin, hmap hvs]
           first
             | (simp [Builtin.append_]; done)
             | (simp [Builtin.copy_]; done)
             | (simp [Builtin.clear_]; done)
             | (simp [Builtin.delete_]; done)
             | rfl
         · exact h.elim)
  case h_11 => exact hq h
end
end Vc
end Go.Proofs.Ytggbhokhibfdmaa
