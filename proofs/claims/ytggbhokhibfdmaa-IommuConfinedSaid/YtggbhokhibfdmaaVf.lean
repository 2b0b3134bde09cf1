/- The steps of a proof over verification conditions: loads, stores, addresses, whole numbers, slices. Conditions: none. -/
import Derived.Test.YtggbhokhibfdmaaVe
set_option linter.unusedVariables false
set_option linter.unusedSimpArgs false
set_option linter.unusedSectionVars false
namespace Go.Proofs.Ytggbhokhibfdmaa
namespace Vc

theorem gsplit.split {b : Bool} {X Y : Prop} (ht : b = true → X) (hf : b = false → Y) : gsplit b X Y := ⟨ht, hf⟩
theorem gsplit.pos {b : Bool} {X Y : Prop} (h : b = true) (hx : X) : gsplit b X Y := ⟨fun _ => hx, fun h' => (by rw [h] at h'; cases h')⟩
theorem gsplit.neg {b : Bool} {X Y : Prop} (h : b = false) (hy : Y) : gsplit b X Y := ⟨fun h' => (by rw [h] at h'; cases h'), fun _ => hy⟩
theorem gsplit.tt {X Y : Prop} (hx : X) : gsplit true X Y := .pos rfl hx
theorem gsplit.ff {X Y : Prop} (hy : Y) : gsplit false X Y := .neg rfl hy
theorem gsplit.dec {p : Prop} [Decidable p] {X Y : Prop} (ht : p → X) (hf : ¬p → Y) : gsplit (decide p) X Y := gsplit.split (fun h => ht (of_decide_eq_true h)) (fun h => hf (of_decide_eq_false h))
theorem gsplit.dpos {p : Prop} [Decidable p] {X Y : Prop} (h : p) (hx : X) : gsplit (decide p) X Y := gsplit.pos (decide_eq_true h) hx
theorem gsplit.dneg {p : Prop} [Decidable p] {X Y : Prop} (h : ¬p) (hy : Y) : gsplit (decide p) X Y := gsplit.neg (decide_eq_false h) hy
theorem gsplit.ndec {p : Prop} [Decidable p] {X Y : Prop} (ht : ¬p → X) (hf : p → Y) : gsplit (!decide p) X Y := gsplit.split (fun h => ht (by simpa using h)) (fun h => hf (by simpa using h))
theorem gsplit.npos {p : Prop} [Decidable p] {X Y : Prop} (h : ¬p) (hx : X) : gsplit (!decide p) X Y := gsplit.pos (by simp [h]) hx
theorem gsplit.nneg {p : Prop} [Decidable p] {X Y : Prop} (h : p) (hy : Y) : gsplit (!decide p) X Y := gsplit.neg (by simp [h]) hy
theorem BIf.split {b : Bool} {X Y : Prop} (ht : b = true → X) (hf : b = false → Y) : BIf b X Y := ⟨ht, hf⟩
theorem BIf.pos {b : Bool} {X Y : Prop} (h : b = true) (hx : X) : BIf b X Y := ⟨fun _ => hx, fun h' => (by rw [h] at h'; cases h')⟩
theorem BIf.neg {b : Bool} {X Y : Prop} (h : b = false) (hy : Y) : BIf b X Y := ⟨fun h' => (by rw [h] at h'; cases h'), fun _ => hy⟩

/-! ### Whole numbers -/
theorem Wr.i64 {x : Int} {K : Value → Prop} (h : -9223372036854775808 ≤ x ∧ x ≤ 9223372036854775807) (k : K (.int .i64 x)) : Wr .i64 x K := ⟨x, IntWalk.i64_in x h, k⟩
theorem Wr.u8 {x : Int} {K : Value → Prop} (h : 0 ≤ x ∧ x ≤ 255) (k : K (.int .u8 x)) : Wr .u8 x K := ⟨x, IntWalk.u8_in x h, k⟩
theorem Wr.u16 {x : Int} {K : Value → Prop} (h : 0 ≤ x ∧ x ≤ 65535) (k : K (.int .u16 x)) : Wr .u16 x K := ⟨x, IntWalk.u16_in x h, k⟩
theorem Wr.u32 {x : Int} {K : Value → Prop} (h : 0 ≤ x ∧ x ≤ 4294967295) (k : K (.int .u32 x)) : Wr .u32 x K := ⟨x, IntWalk.u32_in x h, k⟩
theorem Wr.u64 {x : Int} {K : Value → Prop} (h : 0 ≤ x ∧ x ≤ 18446744073709551615) (k : K (.int .u64 x)) : Wr .u64 x K := ⟨x, IntWalk.u64_in x h, k⟩
theorem Wr.any {kd : IntKind} {x : Int} {K : Value → Prop} (k : K (.int kd (kd.wrap x))) : Wr kd x K := ⟨_, rfl, k⟩
theorem wrap8 (x : Int) : IntKind.u8.wrap x = x % 256 := IntKind.wrap_u8 x
theorem wrap32' (x : Int) : IntKind.u32.wrap x = x % 4294967296 := IntKind.wrap_u32 x
theorem wrap16 (x : Int) : IntKind.u16.wrap x = x % 65536 := by simp [IntKind.wrap, IntKind.bits, IntKind.signed]

section
variable {P : Program} {w0 : World} {I : List Nat} {T : Tab} {L : Hs}

theorem YQ.val {s : Rq} {K : Value → Prop} (v : Value) (h : ∀ w, s.sem.run P w = .ok v w) (k : K v) : YQ P w0 I L s K := ⟨v, fun w _ => h w, k⟩

/-- What an operator gives. -/
theorem YQ.bin {op : BinOp} {t : TypeId} {x y : Operand} {kx ky : IntKind} {a b : Int} {K : Value → Prop} (v : Value) (h : ∀ w, (binOp op t (.int kx a) (.int ky b)).run P w = .ok v w) (k : K v) :
    YQ P w0 I L (.bin op t x y (.int kx a) (.int ky b)) K :=
  ⟨v, fun w _ => by
    show (do eqGuard op t x y (.int kx a) (.int ky b); binOp op t (.int kx a) (.int ky b) : Sem Value).run P w = _
    have : (eqGuard op t x y (.int kx a) (.int ky b)).run P w = .ok () w := by
      cases op <;> simp [eqGuard, Sem.run]
    rw [Sem.run_bind, this]
    exact h w, k⟩

theorem YQ.quo {t : TypeId} {x y : Operand} {kd : IntKind} {a b : Int} {K : Value → Prop} (hb : b ≠ 0) (k : Wr kd (a.tdiv b) K) :
    YQ P w0 I L (.bin .quo t x y (.int kd a) (.int kd b)) K := by
  obtain ⟨z, h, hk⟩ := k
  exact YQ.bin _ (fun w => by simp [binOp, Op.intDiv, hb, Sem.run, h]) hk
theorem YQ.rem {t : TypeId} {x y : Operand} {kd : IntKind} {a b : Int} {K : Value → Prop} (hb : b ≠ 0) (k : K (.int kd (a.tmod b))) :
    YQ P w0 I L (.bin .rem t x y (.int kd a) (.int kd b)) K :=
  YQ.bin _ (fun w => by simp [binOp, Op.intDiv, hb, Sem.run]) k
/-- Those of numbers from 0 on. -/
theorem YQ.quoN {t : TypeId} {x y : Operand} {a b : Int} {K : Value → Prop} (ha : 0 ≤ a ∧ a ≤ 9223372036854775807 ∧ 1 ≤ b) (k : K (.int .i64 (a / b))) :
    YQ P w0 I L (.bin .quo t x y (.int .i64 a) (.int .i64 b)) K :=
  YQ.quo (by omega) ⟨_, IntWalk.i64_quo a b ha, k⟩
theorem YQ.remN {t : TypeId} {x y : Operand} {kd : IntKind} {a b : Int} {K : Value → Prop} (ha : 0 ≤ a ∧ 1 ≤ b) (k : K (.int kd (a % b))) :
    YQ P w0 I L (.bin .rem t x y (.int kd a) (.int kd b)) K :=
  YQ.rem (by omega) (by rw [IntWalk.rem_in a b ha.1]; exact k)
theorem YQ.shl {t : TypeId} {x y : Operand} {kx ky : IntKind} {a b : Int} {K : Value → Prop} (hb : 0 ≤ b) (k : Wr kx (a * 2 ^ (min b.toNat kx.bits)) K) :
    YQ P w0 I L (.bin .shl t x y (.int kx a) (.int ky b)) K := by
  obtain ⟨z, h, hk⟩ := k
  exact YQ.bin _ (fun w => by simp [binOp, Op.shift, Int.not_lt.2 hb, Sem.run, h]) hk
theorem YQ.shr {t : TypeId} {x y : Operand} {kx ky : IntKind} {a b : Int} {K : Value → Prop} (hb : 0 ≤ b) (k : K (.int kx (a.fdiv (2 ^ (min b.toNat kx.bits))))) :
    YQ P w0 I L (.bin .shr t x y (.int kx a) (.int ky b)) K :=
  YQ.bin _ (fun w => by simp [binOp, Op.shift, Int.not_lt.2 hb, Sem.run]) k
def bits (op : BinOp) (k : IntKind) (x y : Int) : Int :=
  let a := BitVec.ofInt k.bits x
  let b := BitVec.ofInt k.bits y
  k.wrap (match op with
  | .and => (a &&& b).toNat
  | .or => (a ||| b).toNat
  | .xor => (a ^^^ b).toNat
  | _ => (a &&& ~~~b).toNat)
theorem YQ.bits {op : BinOp} {t : TypeId} {x y : Operand} {kd : IntKind} {a b : Int} {K : Value → Prop} (h : op = .and ∨ op = .or ∨ op = .xor ∨ op = .andNot) (k : K (.int kd (Vc.bits op kd a b))) :
    YQ P w0 I L (.bin op t x y (.int kd a) (.int kd b)) K :=
  YQ.bin _ (fun w => by rcases h with rfl | rfl | rfl | rfl <;> simp [binOp, Op.intBits, Vc.bits, Sem.run]) k

theorem qeqb {t : TypeId} {x y : Operand} {a b : Bool} {K : Value → Prop} (ht : P.underlying t = some .bool) (k : K (.bool (a == b))) :
    YQ P w0 I L (.bin .eql t x y (.bool a) (.bool b)) K :=
  ⟨_, fun w _ => by
    show (do eqGuard .eql t x y (.bool a) (.bool b); binOp .eql t (.bool a) (.bool b) : Sem Value).run P w = _
    have : (eqGuard .eql t x y (.bool a) (.bool b)).run P w = .ok () w := by simp [eqGuard, Sem.run]
    rw [Sem.run_bind, this]
    simp [binOp, Op.equal, Op.maxDepth, run_equalIn_bool' w _ t a b ht], k⟩
theorem qneb {t : TypeId} {x y : Operand} {a b : Bool} {K : Value → Prop} (ht : P.underlying t = some .bool) (k : K (.bool (!(a == b)))) :
    YQ P w0 I L (.bin .neq t x y (.bool a) (.bool b)) K :=
  ⟨_, fun w _ => by
    show (do eqGuard .neq t x y (.bool a) (.bool b); binOp .neq t (.bool a) (.bool b) : Sem Value).run P w = _
    have : (eqGuard .neq t x y (.bool a) (.bool b)).run P w = .ok () w := by simp [eqGuard, Sem.run]
    rw [Sem.run_bind, this]
    simp [binOp, Op.equal, Op.maxDepth, run_equalIn_bool' w _ t a b ht], k⟩
theorem equalIn_nil {t e : TypeId} {p : Option Addr} (ht : P.underlying t = some (.pointer e)) (w : World) (d : Nat) : (Op.equalIn (d + 1) t (.pointer p) (.pointer none)).run P w = .ok p.isNone w := by
  simp only [Op.equalIn, Sem.run_bind, run_underlying ht, Result.andThen_ok]
  cases p <;> rfl
theorem equal_nil {t e : TypeId} {p : Option Addr} (ht : P.underlying t = some (.pointer e)) (w : World) : (Op.equal t (.pointer p) (.pointer none)).run P w = .ok p.isNone w := equalIn_nil ht w 9999
/-- A pointer against nil. -/
theorem qeqp {t e : TypeId} {x y : Operand} {p : Option Addr} {K : Value → Prop} (ht : P.underlying t = some (.pointer e)) (k : K (.bool p.isNone)) :
    YQ P w0 I L (.bin .eql t x y (.pointer p) (.pointer none)) K :=
  ⟨_, fun w _ => by
    show (do eqGuard .eql t x y (.pointer p) (.pointer none); binOp .eql t (.pointer p) (.pointer none) : Sem Value).run P w = _
    have : (eqGuard .eql t x y (.pointer p) (.pointer none)).run P w = .ok () w := by simp [eqGuard, Sem.run]
    rw [Sem.run_bind, this]
    have h2 := equal_nil (p := p) ht w
    simp only [binOp, Sem.run_bind, h2, Result.andThen_ok, Sem.run_pure], k⟩
theorem qnep {t e : TypeId} {x y : Operand} {p : Option Addr} {K : Value → Prop} (ht : P.underlying t = some (.pointer e)) (k : K (.bool (!p.isNone))) :
    YQ P w0 I L (.bin .neq t x y (.pointer p) (.pointer none)) K :=
  ⟨_, fun w _ => by
    show (do eqGuard .neq t x y (.pointer p) (.pointer none); binOp .neq t (.pointer p) (.pointer none) : Sem Value).run P w = _
    have : (eqGuard .neq t x y (.pointer p) (.pointer none)).run P w = .ok () w := by simp [eqGuard, Sem.run]
    rw [Sem.run_bind, this]
    have h2 := equal_nil (p := p) ht w
    simp only [binOp, Sem.run_bind, h2, Result.andThen_ok, Sem.run_pure], k⟩

/-! ### Loads and stores -/
theorem sc_spec (TO : TabOk P T) {t : Nat} (h : memB t T.sc = true) : (∀ w, (isAgg t).run P w = .ok false w) ∧ ∀ w, (sizeOf t).run P w = .ok 1 w := by
  have hk := List.all_eq_true.1 TO.sc t (memB_spec' h)
  unfold scOk at hk
  split at hk <;> try (simp at hk; done)
  rename_i d hns hna hu
  split at hk
  · rename_i i hi
    have hi1 : i.size = 1 := by simpa using hk
    refine ⟨fun w => ?_, fun w => by simp [sizeOf, typeInfo, program, Sem.run, hi, hi1]⟩
    simp only [isAgg, Sem.run_bind, run_underlying hu, Result.andThen_ok]
    cases d <;> first | rfl | (exact absurd rfl (hns _)) | (exact absurd rfl (hna _ _))
  · simp at hk

theorem ag_spec (TO : TabOk P T) {t n : Nat} (h : natAt T.ag t = some n) : (∀ w, (isAgg t).run P w = .ok true w) ∧ ∀ w, (sizeOf t).run P w = .ok n w := by
  have hk := List.all_eq_true.1 TO.ag _ (natAt_mem h)
  unfold agOk at hk
  dsimp only at hk
  split at hk
  · rename_i hu
    split at hk
    · rename_i i hi
      have hi1 : i.size = n := by simpa using hk
      exact ⟨fun w => by simp [isAgg, Sem.run_bind, run_underlying hu, Sem.run], fun w => by simp [sizeOf, typeInfo, program, Sem.run, hi, hi1]⟩
    · simp at hk
  · rename_i hu
    split at hk
    · rename_i i hi
      have hi1 : i.size = n := by simpa using hk
      exact ⟨fun w => by simp [isAgg, Sem.run_bind, run_underlying hu, Sem.run], fun w => by simp [sizeOf, typeInfo, program, Sem.run, hi, hi1]⟩
    · simp at hk
  · simp at hk

/-- A load of one cell that is known of the worlds. -/
theorem YQ.loadW (TO : TabOk P T) {t b o : Nat} {v : Value} {K : Value → Prop} (hs : memB t T.sc = true)
    (hv : ∀ w, Hp w0 I w L → w.cell? ⟨b, o, none⟩ = some v) (k : K v) : YQ P w0 I L (.load t (.pointer (some ⟨b, o, none⟩))) K := by
  refine ⟨v, fun w hw => ?_, k⟩
  have h1 := (sc_spec TO hs).1 w
  simp only [Rq.sem, Instr.loadAt, Instr.sureAddr, Sem.run_bind, Sem.run_pure, Result.andThen_ok, loadVar, h1, Bool.false_eq_true, if_false]
  simp [load, Sem.run, hv w hw]

theorem YQ.load1 (TO : TabOk P T) {t b o : Nat} {v : Value} {ty : Nat} {cs : List Value} {K : Value → Prop} (hs : memB t T.sc = true) (i : Nat) (hi : cAt L i = some ⟨b, ty, cs⟩)
    (hv : cs[o]? = some v) (k : K v) : YQ P w0 I L (.load t (.pointer (some ⟨b, o, none⟩))) K :=
  YQ.loadW TO hs (fun w hw => hw.cell (e := ⟨b, ty, cs⟩) (List.mem_iff_getElem?.2 ⟨i, (cAt_spec hi).1⟩) (cAt_spec hi).2 hv) k

theorem add_plain (b o j : Nat) : (⟨b, o, none⟩ : Addr).add j = ⟨b, o + j, none⟩ := by unfold Addr.add; split <;> simp_all

theorem YQ.loadAW (TO : TabOk P T) {t b o n : Nat} {vs : List Value} {K : Value → Prop} (hs : natAt T.ag t = some n) (hl : vs.length = n)
    (hv : ∀ w, Hp w0 I w L → ∀ (j : Nat) v, vs[j]? = some v → w.cell? ⟨b, o + j, none⟩ = some v) (k : K (.agg vs.toArray)) : YQ P w0 I L (.load t (.pointer (some ⟨b, o, none⟩))) K := by
  refine ⟨.agg vs.toArray, fun w hw => ?_, k⟩
  have h1 := (ag_spec TO hs).1 w
  have h2 := (ag_spec TO hs).2 w
  have h3 := run_loadCells_list (P := P) w ⟨b, o, none⟩ vs (fun j v hj => by rw [add_plain]; exact hv w hw j v hj)
  rw [hl] at h3
  simp only [Rq.sem, Instr.loadAt, Instr.sureAddr, Sem.run_bind, Sem.run_pure, Result.andThen_ok, loadVar, h1, if_true, h2, h3]

theorem YQ.loadA (TO : TabOk P T) {t b o n : Nat} {vs : List Value} {ty : Nat} {cs : List Value} {K : Value → Prop} (hs : natAt T.ag t = some n) (i : Nat) (hi : cAt L i = some ⟨b, ty, cs⟩)
    (hv : (cs.drop o).take n = vs) (hl : vs.length = n) (k : K (.agg vs.toArray)) : YQ P w0 I L (.load t (.pointer (some ⟨b, o, none⟩))) K := by
  refine YQ.loadAW TO hs hl (fun w hw j v hj => ?_) k
  refine hw.cell (e := ⟨b, ty, cs⟩) (List.mem_iff_getElem?.2 ⟨i, (cAt_spec hi).1⟩) (cAt_spec hi).2 ?_
  subst hv
  rw [List.getElem?_take] at hj
  split at hj
  · rw [List.getElem?_drop] at hj; exact hj
  · simp at hj

theorem YU.storeCs {t b o : Nat} {x : Value} {vs : List Value} {ty : Nat} {cs : List Value} {K : Hs → Prop} (hsz : ∀ w, (sizeOf t).run P w = .ok vs.length w) (hx : x.cells.toList = vs)
    (i : Nat) (hi : cAt L i = some ⟨b, ty, cs⟩) (ho : o + vs.length ≤ cs.length) (h1 : ∀ v, v ∈ vs → v.oneCell' = true) (k : K (L.set i ⟨b, ty, cs.take o ++ vs ++ cs.drop (o + vs.length)⟩)) :
    YU P w0 I L t (.pointer (some ⟨b, o, none⟩)) x K := by
  refine ⟨fun w hw => ?_⟩
  obtain ⟨hi, hisc⟩ := cAt_spec hi
  have hmem : (⟨b, ty, cs⟩ : Ent) ∈ L := List.mem_iff_getElem?.2 ⟨i, hi⟩
  have hg := hw.cells _ hmem
  rw [Ent.obj_c hisc] at hg
  have hst := run_storeCells_at P b o ty vs 0 cs.toArray w hg (by simpa using ho) h1
  refine ⟨_, _, ?_, hw.setRow hi hisc (cs.take o ++ vs ++ cs.drop (o + vs.length)), k⟩
  have hxs : x.cells.size = vs.length := by rw [← hx]; simp
  simp only [Instr.storeAt, Instr.sureAddr, Sem.run_bind, Sem.run_pure, Result.andThen_ok, storeVar, hsz w, hxs, ne_eq, not_true, if_false, hx]
  simpa using hst

theorem YU.store1 (TO : TabOk P T) {t b o : Nat} {v : Value} {ty : Nat} {cs : List Value} {K : Hs → Prop} (hs : memB t T.sc = true) (hv : v.oneCell' = true)
    (i : Nat) (hi : cAt L i = some ⟨b, ty, cs⟩) (ho : o < cs.length) (k : K (L.set i ⟨b, ty, cs.set o v⟩)) : YU P w0 I L t (.pointer (some ⟨b, o, none⟩)) v K := by
  have hc : v.cells.toList = [v] := by cases v <;> simp [Value.cells, Value.oneCell'] at hv ⊢
  refine YU.storeCs (vs := [v]) (fun w => (sc_spec TO hs).2 w) hc i hi (by simp; omega) (by simpa using hv) ?_
  have : cs.take o ++ [v] ++ cs.drop (o + 1) = cs.set o v := by rw [List.set_eq_take_append_cons_drop, if_pos ho]; simp
  simpa [this] using k

theorem YU.storeA (TO : TabOk P T) {t b o n : Nat} {vs : List Value} {ty : Nat} {cs : List Value} {K : Hs → Prop} (hs : natAt T.ag t = some n) (hl : vs.length = n) (h1 : vs.all (·.oneCell') = true)
    (i : Nat) (hi : cAt L i = some ⟨b, ty, cs⟩) (ho : o + n ≤ cs.length) (k : K (L.set i ⟨b, ty, cs.take o ++ vs ++ cs.drop (o + n)⟩)) : YU P w0 I L t (.pointer (some ⟨b, o, none⟩)) (.agg vs.toArray) K := by
  subst hl
  exact YU.storeCs (vs := vs) (fun w => (ag_spec TO hs).2 w) (by simp [Value.cells]) i hi ho (List.all_eq_true.1 h1) k

/-! ### Addresses -/
theorem el_spec (TO : TabOk P T) {t s : Nat} (h : natAt T.el t = some s) : ∃ e, P.underlying t = some (.slice e) ∧ ∀ w, (sizeOf e).run P w = .ok s w := by
  have hk := List.all_eq_true.1 TO.el _ (natAt_mem h)
  unfold elOk at hk
  dsimp only at hk
  split at hk
  · rename_i e hu
    split at hk
    · rename_i i hi
      have hi1 : i.size = s := by simpa using hk
      exact ⟨e, hu, fun w => by simp [sizeOf, typeInfo, program, Sem.run, hi, hi1]⟩
    · simp at hk
  · simp at hk
theorem ar_spec (TO : TabOk P T) {t n s : Nat} (h : natAt T.ar t = some (n, s)) : ∃ e, P.underlying t = some (.array n e) ∧ ∀ w, (sizeOf e).run P w = .ok s w := by
  have hk := List.all_eq_true.1 TO.ar _ (natAt_mem h)
  unfold arOk at hk
  dsimp only at hk
  split at hk
  · rename_i m e hu
    split at hk
    · rename_i i hi
      simp only [Bool.and_eq_true, beq_iff_eq] at hk
      obtain ⟨h1, rfl⟩ := hk
      exact ⟨e, hu, fun w => by simp [sizeOf, typeInfo, program, Sem.run, hi, h1]⟩
    · simp at hk
  · simp at hk

theorem YQ.idx (TO : TabOk P T) {t b o len cap s : Nat} {kd : IntKind} {i : Int} {K : Value → Prop} (hs : natAt T.el t = some s) (hi : 0 ≤ i ∧ i < len) (k : K (.pointer (some ⟨b, o + i.toNat * s, none⟩))) :
    YQ P w0 I L (.indexAddr t (.slice (some ⟨b, o, none⟩) len cap) (.int kd i)) K := by
  obtain ⟨e, hu, hz⟩ := el_spec TO hs
  refine YQ.val _ (fun w => ?_) k
  simp only [Rq.sem, Instr.indexAt, asIntOf, Sem.run_bind, Sem.run_pure, Result.andThen_ok, run_underlying hu, hi.1, hi.2, and_self, if_true, hz, add_plain]
theorem YQ.idxA (TO : TabOk P T) {t b o n s : Nat} {kd : IntKind} {i : Int} {K : Value → Prop} (hs : natAt T.ar t = some (n, s)) (hi : 0 ≤ i ∧ i < n) (k : K (.pointer (some ⟨b, o + i.toNat * s, none⟩))) :
    YQ P w0 I L (.indexAddr t (.pointer (some ⟨b, o, none⟩)) (.int kd i)) K := by
  obtain ⟨e, hu, hz⟩ := ar_spec TO hs
  refine YQ.val _ (fun w => ?_) k
  simp only [Rq.sem, Instr.indexAt, asIntOf, Sem.run_bind, Sem.run_pure, Result.andThen_ok, run_underlying hu, Instr.sureAddr]
  simp [hi.1, hi.2, hz, add_plain, Sem.run, Sem.run_bind]

/-- A slice of an array behind a pointer. -/
theorem YQ.sliceA (TO : TabOk P T) {t b o n s : Nat} {kl kh : IntKind} {l h : Int} {K : Value → Prop} (hs : natAt T.ar t = some (n, s)) (hl : 0 ≤ l ∧ l ≤ h) (hh : h ≤ n)
    (k : K (.slice (some ⟨b, if n = l.toNat then o else o + l.toNat * s, none⟩) (h.toNat - l.toNat) (n - l.toNat))) :
    YQ P w0 I L (.slice t (.pointer (some ⟨b, o, none⟩)) (some (.int kl l)) (some (.int kh h))) K := by
  obtain ⟨e, hu, hz⟩ := ar_spec TO hs
  refine YQ.val _ (fun w => ?_) k
  obtain ⟨l', rfl⟩ := Int.eq_ofNat_of_zero_le hl.1
  obtain ⟨h', rfl⟩ := Int.eq_ofNat_of_zero_le (show (0 : Int) ≤ h by omega)
  have hh' : h' ≤ n := by omega
  have hl' : l' ≤ h' := by omega
  simp only [Rq.sem, Instr.sliceAt, Sem.run_bind, Sem.run_pure, Result.andThen_ok, run_underlying hu, Instr.sureAddr]
  simp [Instr.sliceBounds, Instr.sliceBound, asIntOf, hh', hl', hz, add_plain, Sem.run, Sem.run_bind]
  by_cases hc : n = l' <;> simp [hc]
theorem YQ.sliceAll (TO : TabOk P T) {t b o n s : Nat} {K : Value → Prop} (hs : natAt T.ar t = some (n, s)) (k : K (.slice (some ⟨b, o, none⟩) n n)) :
    YQ P w0 I L (.slice t (.pointer (some ⟨b, o, none⟩)) none none) K := by
  obtain ⟨e, hu, hz⟩ := ar_spec TO hs
  refine YQ.val _ (fun w => ?_) k
  simp only [Rq.sem, Instr.sliceAt, Sem.run_bind, Sem.run_pure, Result.andThen_ok, run_underlying hu, Instr.sureAddr]
  simp [Instr.sliceBounds, hz, add_plain, Sem.run, Sem.run_bind]

theorem YQ.len (TO : TabOk P T) {t s : Nat} {a : Option Addr} {n m : Nat} {K : Value → Prop} (hs : natAt T.el t = some s) (k : K (.int .i64 n)) : YQ P w0 I L (.len t (.slice a n m)) K := by
  obtain ⟨e, hu, hz⟩ := el_spec TO hs
  refine YQ.val _ (fun w => ?_) k
  simp [Rq.sem, Builtin.len_, run_underlying hu, goInt, Sem.run, Sem.run_bind]

theorem Fin.all {L : Hs} {R : Value → Hs → Prop} {v : Value} (h : R v L) : Fin L R v := .mk L ⟨[], by simp⟩ h
theorem Fin.take (n : Nat) {L : Hs} {R : Value → Hs → Prop} {v : Value} (h : R v (L.take n)) : Fin L R v := .mk (L.take n) ⟨L.drop n, by simp⟩ h

/-! ### Rows of whole numbers -/
def ints (k : IntKind) (xs : List Int) : List Value := xs.map (Value.int k)
theorem ints_length (k : IntKind) (xs : List Int) : (ints k xs).length = xs.length := by simp [ints]
theorem ints_get {k : IntKind} {xs : List Int} {o : Nat} (h : o < xs.length) : (ints k xs)[o]? = some (.int k (xs.getD o 0)) := by
  simp [ints, List.getD_eq_getElem?_getD, List.getElem?_eq_getElem h]
theorem ints_set (k : IntKind) (xs : List Int) (o : Nat) (x : Int) : (ints k xs).set o (.int k x) = ints k (xs.set o x) := by simp [ints, List.map_set]
theorem ints_one (k : IntKind) (xs : List Int) : (ints k xs).all (·.oneCell') = true := by simp [ints, Value.oneCell']
theorem YQ.loadI (TO : TabOk P T) {t b o : Nat} {k : IntKind} {xs : List Int} {ty : Nat} {K : Value → Prop} (hs : memB t T.sc = true) (i : Nat) (hi : cAt L i = some ⟨b, ty, ints k xs⟩)
    (ho : o < xs.length) (kk : K (.int k (xs.getD o 0))) : YQ P w0 I L (.load t (.pointer (some ⟨b, o, none⟩))) K := YQ.load1 TO hs i hi (ints_get ho) kk
theorem YU.storeI (TO : TabOk P T) {t b o : Nat} {k : IntKind} {x : Int} {xs : List Int} {ty : Nat} {K : Hs → Prop} (hs : memB t T.sc = true) (i : Nat) (hi : cAt L i = some ⟨b, ty, ints k xs⟩)
    (ho : o < xs.length) (kk : K (L.set i ⟨b, ty, ints k (xs.set o x)⟩)) : YU P w0 I L t (.pointer (some ⟨b, o, none⟩)) (.int k x) K :=
  YU.store1 TO hs rfl i hi (by rw [ints_length]; exact ho) (by rw [ints_set]; exact kk)
end
end Vc
end Go.Proofs.Ytggbhokhibfdmaa
